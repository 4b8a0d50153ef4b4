/- A symbolic machine for Go code over plain data, and functions of the program as it shows them. No statement is proved in this file. -/
import Derived.Lib.SliceRun
import Derived.Lib.ConvBytes
import Derived.Lib.SlBytesConst
import Derived.Test.YtohjofabochgfaaGreatXa
set_option linter.unusedSimpArgs false
set_option linter.unusedVariables false
set_option linter.unusedSectionVars false

namespace Go.Proofs.YtohjofabochgfaaGreat
namespace Sx
open Go
section
variable {P : Program} {R : Ctx} {w : World}
theorem H2 (hm : cN R w) {c e : Nat} {t : Ty} {xs : List t.T} (hc : R.hp c = some ⟨e, .row t xs⟩) : 0 < t.size ∧ xs.length ≤ cb := by
  have := hm.ch c _ hc
  simp only [eg] at this
  exact ⟨this.1, this.2.1⟩
def Ctx.move (R : Ctx) (c : Nat) (ch : Ch) (L : Option Loc) : Ctx := { R with hp := fun m => if m = c then some ch else R.hp m, σ := fun m => if m = c then L else R.σ m }
theorem Ctx.Gd {R : Ctx} {c : Nat} {ch ch' : Ch} {L : Option Loc} (hc : R.hp c = some ch) (he : ch.ep < ch'.ep) : R.Ext (R.move c ch' L) := by
  refine ⟨fun _ _ h => h, rfl, fun n c1 hn => ?_⟩
  by_cases e : n = c
  · subst e
    rw [hc] at hn
    cases Option.some.inj hn
    exact ⟨ch', by simp [Ctx.move], Nat.le_of_lt he, fun h => by omega⟩
  · exact ⟨c1, by simp [Ctx.move, e, hn], Nat.le_refl _, fun _ => ⟨rfl, by simp [Ctx.move, e]⟩⟩
theorem xR (hm : cN R w) {T T' Tr el : TypeId} {ti : TI} (hT : P.underlying T = some (.slice el)) (he : aP P el ti) (hT' : (∃ e, P.underlying T' = some (.slice e)) ∨ P.underlying T' = some .string)
    {t : Ty} (hts : t.size = ti.size) {c ep : Nat} {xs ys : List t.T} (hc : R.hp c = some ⟨ep, .row t xs⟩) {v x : Value} {news : List Value} (hv : R.own c ep v) (hsrc : Src P R w t ys x news)
    (hbytes : (xs.length + ys.length) * ti.bytes ≤ 140737488355328) (hb0 : 0 < ti.bytes) :
    Bv P R w (Builtin.append_ #[T, T'] Tr #[v, x]) ⟨.own c (ep + 1), [(c, ⟨ep + 1, .row t (xs ++ ys)⟩)]⟩ := by
  obtain ⟨ht, hmx⟩ := H2 hm hc
  have hp := Ctx.cy hc hv
  obtain ⟨news0, hold⟩ := jw (P := P) hm hc (.inl rfl) hp
  obtain ⟨_, _, ad, cap, rfl, hcap, h5⟩ := Ctx.cT hc hp
  simp only [Chunk.shape, List.drop_zero, List.take_length, Nat.zero_add, Nat.zero_mul, Nat.add_zero] at hold hcap h5 ⊢
  have h63 : xs.length + ys.length ≤ 140737488355328 := by
    have : (xs.length + ys.length) * 1 ≤ (xs.length + ys.length) * ti.bytes := Nat.mul_le_mul_left _ hb0
    omega
  have hlen : (xs ++ ys).length = xs.length + ys.length := List.length_append
  have hch := hm.ch c _ hc
  have hf := hsrc.cells w ys.length (fun _ _ => rfl) (Nat.le_refl _)
  rw [hts, ← hts, List.take_of_length_le (by rw [hsrc.size]; exact Nat.le_refl _), hts] at hf
  by_cases hroom : xs.length + ys.length ≤ cap
  · -- in place
    cases hσ : R.σ c with
    | none =>
      rw [hσ] at h5
      simp only at h5
      subst h5
      have hx0 : xs = [] := List.eq_nil_of_length_eq_zero (by omega)
      have hy0 : ys = [] := List.eq_nil_of_length_eq_zero (by omega)
      subst hx0; subst hy0
      have hn0 : news = [] := List.eq_nil_of_length_eq_zero (by rw [hsrc.size]; simp)
      subst hn0
      have hrun : (Builtin.append_ #[T, T'] Tr #[.slice ad 0 0, x]).run P w = .ok (.slice ad 0 0) w := by
        cases ad with
        | none => exact fN hT he hT' (hsrc.len w) hf hroom
        | some a => exact mq hT he hT' (hsrc.len w) hf hroom rfl
      have hx := Ctx.Gd (L := none) (ch' := ⟨ep + 1, .row t ([] ++ [])⟩) hc (by simp)
      refine ⟨_, w, R.move c ⟨ep + 1, .row t ([] ++ [])⟩ none, hrun, ⟨hx, rfl, ?_⟩, ?_⟩
      · refine cN.turn hm hx rfl rfl (fun n hn => by simp [Ctx.move, hn]) w.heap.size (fun _ _ _ => rfl) ⟨hm.OS, hm.OQ, fun n ch L hn h1 h2 h3 => ?_⟩ ?_ (fun L h2 => by simp [Ctx.move] at h2)
        · have := hm.lt h1 h2 h3; omega
        · simp only [eg, Ctx.move, if_true]
          exact ⟨ht, by simp, rfl⟩
      · simp only [SV.rel]
        have hc' : (R.move c ⟨ep + 1, .row t ([] ++ [])⟩ none).hp c = some ⟨ep + 1, .row t ([] ++ [])⟩ := by simp [Ctx.move]
        refine ⟨rfl, _, hc', Nat.le_refl _, fun _ => ⟨_, hc', Nat.le_refl _, fun _ => ⟨rfl, by simp, ad, 0, rfl, Nat.le_refl _, ?_⟩⟩⟩
        simp [Ctx.move]
    | some L =>
      rw [hσ] at h5
      obtain ⟨h6, h7⟩ := h5
      simp only [eg, hσ] at hch
      obtain ⟨_, _, hF, hU, arr, E, hb, ha, hl, hrow⟩ := hch
      have hle : (xs.length + ys.length) * t.size ≤ cap * t.size := Nat.mul_le_mul_right _ hroom
      rw [Nat.add_mul] at hle
      have hst : ∀ a, ad = some a → (Go.storeCells (a.add (xs.length * ti.size)) news).run P w = .ok () (w.setRow L.block (arr.toList.take (L.base + xs.length * t.size) ++ news ++ arr.toList.drop (L.base + xs.length * t.size + news.length)).toArray) := fun a haa => by
        by_cases hz : news = []
        · subst hz
          simp only [Go.storeCells, List.append_nil, List.length_nil, Nat.add_zero, List.take_append_drop, Array.toArray_toList]
          rw [setRow_self w L.block arr E (0, 0) hb]
          rfl
        · have hpos : 0 < cap := by
            have : 0 < news.length := List.length_pos_iff.2 hz
            rw [hsrc.size] at this
            have := Nat.pos_of_mul_pos_right this
            omega
          have := h7 hpos
          rw [haa] at this
          cases this
          rw [fJ, ← hts]
          have := run_storeCells_at P L.block (L.base + xs.length * t.size) E news 0 arr w hb (by rw [hsrc.size]; omega) hsrc.one
          simpa using this
      have hx := Ctx.Gd (L := some L) (ch' := ⟨ep + 1, .row t (xs ++ ys)⟩) hc (by simp)
      have hmem : ∀ w', w'.heap[L.block]? = some (.cells (arr.toList.take (L.base + xs.length * t.size) ++ news ++ arr.toList.drop (L.base + xs.length * t.size + news.length)).toArray E (0, 0)) → (∀ b, b ≠ L.block → w'.heap[b]? = w.heap[b]?) → OR w w' →
          cN (R.move c ⟨ep + 1, .row t (xs ++ ys)⟩ (some L)) w' := fun w' hw' ja hlk => by
        refine cN.turn hm hx rfl rfl (fun n hn => by simp [Ctx.move, hn]) L.block (fun b _ hne => ja b hne) ⟨hF, hU, fun n ch2 L2 hn hn2 hm2 hs2 heq => hn (hm.apart n c ch2 _ L2 L hn2 hc hm2 rfl hs2 hσ heq)⟩ ?_ (fun L2 h2 => by simp only [Ctx.move, if_true] at h2; cases h2; rfl) hlk
        simp only [eg, Ctx.move, if_true]
        refine ⟨ht, by rw [hlen]; unfold cb; omega, hF, hU, _, E, hw', ?_, ?_, ?_⟩
        · simp only [List.size_toArray, List.length_append, List.length_take, List.length_drop, Array.length_toList, hsrc.size]
          omega
        · rw [hlen, Nat.add_mul]; omega
        · have hA : (seg arr.toList L.base (xs.length * t.size)).length = xs.length * t.size := dX (by simp; omega)
          have := ui (R := R) (xs := xs) (ys := ys) (A := seg arr.toList L.base (xs.length * t.size)) (B := news) (C := arr.toList.drop (L.base + xs.length * t.size + news.length)) hA hsrc.size (fun i hi => by
            have hle : (i + 1) * t.size ≤ xs.length * t.size := Nat.mul_le_mul_right _ hi
            rw [Nat.succ_mul] at hle
            rw [ug _ _ _ _ _ hle]
            exact hrow i hi) hsrc.rep
          intro i hi
          have h8 := this i hi
          have e : seg (arr.toList.take (L.base + xs.length * t.size) ++ news ++ arr.toList.drop (L.base + xs.length * t.size + news.length)) (L.base + i * t.size) t.size =
              seg (seg arr.toList L.base (xs.length * t.size) ++ news ++ arr.toList.drop (L.base + xs.length * t.size + news.length)) (i * t.size) t.size := by
            simp only [seg]
            rw [← List.drop_drop]
            congr 2
            rw [List.append_assoc, List.drop_append, List.drop_take, List.length_take, List.append_assoc]
            rw [show L.base - min (L.base + xs.length * t.size) arr.toList.length = 0 by simp; omega, List.drop_zero]
            congr 2
            omega
          simp only
          rw [e]
          exact h8
      cases had : ad with
      | none =>
        have hcap0 : cap = 0 := by
          by_cases hc0 : 0 < cap
          · have := h7 hc0; rw [had] at this; cases this
          · omega
        have hx0 : xs = [] := List.eq_nil_of_length_eq_zero (by omega)
        have hy0 : ys = [] := List.eq_nil_of_length_eq_zero (by omega)
        subst hx0; subst hy0; subst hcap0
        have hn0 : news = [] := List.eq_nil_of_length_eq_zero (by rw [hsrc.size]; simp)
        subst hn0
        have hrun := fN (Tr := Tr) hT he hT' (hsrc.len w) hf hroom
        refine ⟨_, w, R.move c ⟨ep + 1, .row t ([] ++ [])⟩ (some L), hrun, ⟨hx, rfl, hmem w (by simpa using hb) (fun _ _ => rfl) ⟨rfl, rfl, rfl⟩⟩, ?_⟩
        simp only [SV.rel]
        have hc' : (R.move c ⟨ep + 1, .row t ([] ++ [])⟩ (some L)).hp c = some ⟨ep + 1, .row t ([] ++ [])⟩ := by simp [Ctx.move]
        refine ⟨rfl, _, hc', Nat.le_refl _, fun _ => ⟨_, hc', Nat.le_refl _, fun _ => ⟨rfl, by simp, none, 0, rfl, Nat.le_refl _, ?_⟩⟩⟩
        simp [Ctx.move]
      | some a =>
        have hrun := mq (Tr := Tr) hT he hT' (hsrc.len w) hf hroom (hst a had)
        refine ⟨_, _, R.move c ⟨ep + 1, .row t (xs ++ ys)⟩ (some L), hrun, ⟨hx, rfl, hmem _ (setRow_heap w L.block arr _ E _ hb) (fun b hne => setRow_other w L.block b _ hne) ⟨rfl, rfl, rfl⟩⟩, ?_⟩
        simp only [SV.rel]
        have hc' : (R.move c ⟨ep + 1, .row t (xs ++ ys)⟩ (some L)).hp c = some ⟨ep + 1, .row t (xs ++ ys)⟩ := by simp [Ctx.move]
        refine ⟨rfl, _, hc', Nat.le_refl _, fun _ => ⟨_, hc', Nat.le_refl _, fun _ => ⟨rfl, by simp, some a, cap, by simp [Chunk.shape], by simp only [Chunk.shape, hlen]; exact hroom, ?_⟩⟩⟩
        simp only [Ctx.move, if_true, Chunk.shape, Nat.zero_add, Nat.zero_mul, Nat.add_zero]
        exact ⟨h6, fun hpos => by rw [← had]; exact h7 hpos⟩
  · -- a new row
    obtain ⟨ie, z, z1, z2, z3, z4, z5, z6, z7⟩ := he.n0 (R := R)
    have hf := hsrc.cells w.drew ys.length (sN w) (Nat.le_refl _)
    have ho := hold.cells w.drew xs.length (sN w) (Nat.le_refl _)
    rw [List.take_of_length_le (by rw [hsrc.size]; exact Nat.le_refl _), hts] at hf
    rw [List.take_of_length_le (by rw [hold.size]; exact Nat.le_refl _), hts] at ho
    have hrun := wv (Tr := Tr) hT he hT' (hsrc.len w) z1 z4 hroom h63 (growslice_fits (by omega) (by rw [z3]; exact hbytes)) ho hf
    have hge := grownCap_ge w (xs.length + ys.length) cap el
    have hsz : (news0.toArray ++ news.toArray ++ Builtin.zeroCells z.cells (grownCap w (xs.length + ys.length) cap el - (xs.length + ys.length))).size = grownCap w (xs.length + ys.length) cap el * t.size := by
      simp only [Array.size_append, List.size_toArray, size_zeroCells, z6, hold.size, hsrc.size, ← hts, ← Nat.add_mul]
      congr 1
      omega
    have hx := Ctx.Gd (L := some ⟨w.heap.size, 0, grownCap w (xs.length + ys.length) cap el * t.size⟩) (ch' := ⟨ep + 1, .row t (xs ++ ys)⟩) hc (by simp)
    refine ⟨_, _, R.move c ⟨ep + 1, .row t (xs ++ ys)⟩ (some ⟨w.heap.size, 0, grownCap w (xs.length + ys.length) cap el * t.size⟩), hrun, ⟨hx, rfl, ?_⟩, ?_⟩
    · refine cN.turn hm hx rfl rfl (fun n hn => by simp [Ctx.move, hn]) w.heap.size (fun b hb _ => heap_alloc_old w.drew _ b hb) ⟨hm.OS, hm.OQ, fun n ch L hn h1 h2 h3 => ?_⟩ ?_ (fun L2 h2 => by simp only [Ctx.move, if_true] at h2; cases h2; rfl)
      · have := hm.lt h1 h2 h3; omega
      · simp only [eg, Ctx.move, if_true]
        refine ⟨ht, by rw [hlen]; unfold cb; omega, hm.OS, hm.OQ, _, el, heap_alloc_new w.drew _, by rw [hsz]; simp, ?_, ?_⟩
        · rw [hlen]; exact Nat.mul_le_mul_right _ hge
        · have := ui (R := R) (C := (Builtin.zeroCells z.cells (grownCap w (xs.length + ys.length) cap el - (xs.length + ys.length))).toList) hold.size hsrc.size hold.rep hsrc.rep
          simpa using this
    · simp only [SV.rel]
      have hc' : (R.move c ⟨ep + 1, .row t (xs ++ ys)⟩ (some ⟨w.heap.size, 0, grownCap w (xs.length + ys.length) cap el * t.size⟩)).hp c = some ⟨ep + 1, .row t (xs ++ ys)⟩ := by simp [Ctx.move]
      refine ⟨rfl, _, hc', Nat.le_refl _, fun _ => ⟨_, hc', Nat.le_refl _, fun _ => ⟨rfl, by simp, some ⟨w.heap.size, 0, none⟩, grownCap w (xs.length + ys.length) cap el, by simp only [Chunk.shape, hlen], by simp only [Chunk.shape, hlen]; exact hge, ?_⟩⟩⟩
      simp only [Ctx.move, if_true, Chunk.shape, Nat.zero_add, Nat.zero_mul, Nat.add_zero]
      exact ⟨Nat.le_refl _, fun _ => by simp⟩
theorem xS (hm : cN R w) {T T' Tr el : TypeId} {ti : TI} (hT : P.underlying T = some (.slice el)) (he : aP P el ti) (hT' : (∃ e, P.underlying T' = some (.slice e)) ∨ P.underlying T' = some .string)
    {t : Ty} (ht : 0 < t.size) (hts : t.size = ti.size) {n : Nat} (hn : R.hp n = none) {ys : List t.T} {ad : Option Addr} {x : Value} {news : List Value} (hsrc : Src P R w t ys x news)
    (hbytes : ys.length * ti.bytes ≤ 140737488355328) (hb0 : 0 < ti.bytes) :
    Bv P R w (Builtin.append_ #[T, T'] Tr #[.slice ad 0 0, x]) ⟨.own n 0, [(n, ⟨0, .row t ys⟩)]⟩ := by
  by_cases h0 : ys = []
  · subst h0
    have hn0 : news = [] := List.eq_nil_of_length_eq_zero (by rw [hsrc.size]; simp)
    subst hn0
    have hf := hsrc.cells w 0 (fun _ _ => rfl) (Nat.zero_le _)
    rw [hts] at hf
    simp only [Nat.zero_mul, List.take_nil] at hf
    have hrun : (Builtin.append_ #[T, T'] Tr #[.slice ad 0 0, x]).run P w = .ok (.slice ad 0 0) w := by
      cases ad with
      | none => exact fN hT he hT' (hsrc.len w) hf (by simp)
      | some a => exact mq hT he hT' (hsrc.len w) hf (by simp) rfl
    exact ⟨_, w, _, hrun, cN.amV hm hn (fun _ _ => rfl) (by simp only [eg, Ctx.lay, if_true]; exact ⟨ht, by simp, trivial⟩), yO⟩
  · have hpos : 0 < ys.length := List.length_pos_iff.2 h0
    have := JZ (Tr := Tr) (te := fun _ => none) hm hT he hT' ht hts (xs := []) (base := ad) (sCap := 0) hsrc (olds := []) LR (by simp; omega) (by simpa using hbytes) hb0 hn
    simpa using this
theorem CX (hm : cN R w) {te : TE} (hte : j3 P te) {T T' Tr : TypeId} {d : Nat} {s x : SV} {v u : Value} {e : Eff} (hT2 : rz te T' = true) (h : (o3 te R.hp d T s x).run = some e)
    (hs : SV.rel R s v) (hx : SV.rel R x u) : Bv P R w (Builtin.append_ #[T, T'] Tr #[v, u]) e := by
  have hT' := Fl hte hT2
  unfold o3 at h
  split at h
  · rename_i el _ _ hT
    obtain ⟨ds, h1, h2⟩ := (hte T _ hT).desc
    simp only at h2
    subst h2
    split at h
    · rename_i size bytes desc zero t hei
      have he := hte el _ hei
      split at h
      · cases h
      · rename_i hc
        simp only [not_or] at hc
        obtain ⟨hts, hs0, hb0⟩ := hc
        have hts : t.size = size := by simpa using hts
        have ht : 0 < t.size := by omega
        split at h
        · rename_i ys hys
          have hsrc : ∃ news, Src P R w t ys u news := by
            split at hys
            · exact Yu hys hx
            · exact EP hm ht hys hx
          obtain ⟨news, hsrc⟩ := hsrc
          split at h
          · rename_i c ep
            split at h
            · rename_i t' xs hc
              split at h
              · rename_i xs' hxs
                obtain ⟨hg, h'⟩ := OT.aA h
                cases h'
                obtain ⟨et, rfl⟩ := aU hxs
                subst et
                simp only [SV.rel] at hs
                exact xR hm h1 he hT' hts (cl hc) hs.2 hsrc (of_decide_eq_true hg) (Nat.pos_of_ne_zero hb0)
              · cases h
            · cases h
          · rename_i c ep
            split at h
            · rename_i t' xs hc
              split at h
              · rename_i xs' hxs
                dsimp only at h
                split at h
                · cases h
                · rename_i hfr
                  obtain ⟨hg, h'⟩ := OT.aA h
                  cases h'
                  obtain ⟨et, rfl⟩ := aU hxs
                  subst et
                  simp only [Bool.and_eq_true, decide_eq_true_eq] at hg
                  simp only [SV.rel] at hs
                  have hc' := cl hc
                  have hp := Ctx.cy hc' hs.2.1
                  obtain ⟨olds, hold⟩ := jw (P := P) hm hc' (.inl rfl) hp
                  obtain ⟨ad, len, hv⟩ := hs.2.2 _ hc' rfl
                  obtain ⟨_, _, ad', cap, hv', hcap, _⟩ := Ctx.cT hc' hp
                  rw [hv] at hv'
                  cases hv'
                  subst hv
                  simp only [Chunk.shape, List.drop_zero, List.take_length] at hold ⊢
                  exact JZ (te := te) hm h1 he hT' ht hts hsrc hold (by omega) hg.1 (Nat.pos_of_ne_zero hb0) (kF hfr)
              · cases h
            · cases h
          · dsimp only at h
            split at h
            · cases h
            · rename_i hfr
              obtain ⟨hg, h'⟩ := OT.aA h
              cases h'
              simp only [SV.rel] at hs
              obtain ⟨ad, rfl⟩ := hs
              exact xS hm h1 he hT' ht hts (kF hfr) hsrc (of_decide_eq_true hg) (Nat.pos_of_ne_zero hb0)
          · cases h
        · cases h
    · cases h
  · cases h
theorem Yz {t : Ty} {xs ys : List t.T} {arr : Array Value} {base off n : Nat} {news : List Value} (hrow : Hl R arr base t xs) (hsz : base + xs.length * t.size ≤ arr.size) (hn : off + n ≤ xs.length) (hny : n ≤ ys.length)
    (hl : news.length = n * t.size) (hnews : ∀ i, i < n → Rep R.F t (ys.getD i t.d) (seg news (i * t.size) t.size)) :
    Hl R (arr.toList.take (base + off * t.size) ++ news ++ arr.toList.drop (base + off * t.size + news.length)).toArray base t (xs.take off ++ (ys.take n ++ xs.drop (off + n))) := by
  intro i hi
  simp only [List.length_append, List.length_take, List.length_drop] at hi
  have hi' : i < xs.length := by omega
  have hoff : (off + n) * t.size ≤ xs.length * t.size := Nat.mul_le_mul_right _ hn
  rw [Nat.add_mul] at hoff
  have hi1 : (i + 1) * t.size ≤ xs.length * t.size := Nat.mul_le_mul_right _ hi'
  rw [Nat.succ_mul] at hi1
  simp only
  by_cases c1 : i < off
  · have e1 : (xs.take off ++ (ys.take n ++ xs.drop (off + n))).getD i t.d = xs.getD i t.d := by
      simp only [List.getD_eq_getElem?_getD]
      rw [List.getElem?_append_left (by simp; omega), List.getElem?_take_of_lt c1]
    have : (i + 1) * t.size ≤ off * t.size := Nat.mul_le_mul_right _ c1
    rw [Nat.succ_mul] at this
    rw [e1, eY _ _ _ _ _ (by simp; omega) (by left; omega)]
    exact hrow i hi'
  · by_cases c2 : i < off + n
    · have e1 : (xs.take off ++ (ys.take n ++ xs.drop (off + n))).getD i t.d = ys.getD (i - off) t.d := by
        simp only [List.getD_eq_getElem?_getD]
        rw [List.getElem?_append_right (by simp; omega), List.getElem?_append_left (by simp; omega), List.getElem?_take_of_lt (by simp; omega)]
        congr 2
        simp; omega
      have hk1 : (i - off + 1) * t.size ≤ n * t.size := Nat.mul_le_mul_right _ (by omega)
      have hk2 : (i - off) * t.size + off * t.size = i * t.size := by rw [← Nat.add_mul]; congr 1; omega
      rw [Nat.succ_mul] at hk1
      have e2 : seg (arr.toList.take (base + off * t.size) ++ news ++ arr.toList.drop (base + off * t.size + news.length)) (base + i * t.size) t.size = seg news ((i - off) * t.size) t.size := by
        apply List.ext_getElem?
        intro j
        simp only [seg, List.getElem?_take, List.getElem?_drop]
        by_cases hj : j < t.size
        · simp only [hj, if_true]
          rw [List.getElem?_append_left (by simp; omega), List.getElem?_append_right (by simp; omega)]
          congr 1
          simp; omega
        · simp [hj]
      rw [e1, e2]
      exact hnews _ (by omega)
    · have e1 : (xs.take off ++ (ys.take n ++ xs.drop (off + n))).getD i t.d = xs.getD i t.d := by
        simp only [List.getD_eq_getElem?_getD]
        rw [List.getElem?_append_right (by simp; omega), List.getElem?_append_right (by simp; omega), List.getElem?_drop]
        congr 2
        simp; omega
      have : (off + n) * t.size ≤ i * t.size := Nat.mul_le_mul_right _ (by omega)
      rw [Nat.add_mul] at this
      rw [e1, eY _ _ _ _ _ (by simp; omega) (by right; omega)]
      exact hrow i hi'
end
end Sx
end Go.Proofs.YtohjofabochgfaaGreat

namespace Go.Proofs.YtohjofabochgfaaGreat
namespace Sx
open Go
section
variable {P : Program} {R : Ctx} {w : World}
theorem Rm {α : Type} (ys : List α) (k : Nat) : ys.take (min ys.length k) = ys.take k := by
  by_cases h : k ≤ ys.length
  · rw [Nat.min_eq_right h]
  · rw [Nat.min_eq_left (by omega), List.take_of_length_le (Nat.le_refl _), List.take_of_length_le (by omega)]
theorem af7 {α : Type} (xs : List α) (k : Nat) : xs.drop (min k xs.length) = xs.drop k := by
  by_cases h : k ≤ xs.length
  · rw [Nat.min_eq_left h]
  · rw [Nat.min_eq_right (by omega), List.drop_of_length_le (Nat.le_refl _), List.drop_of_length_le (by omega)]
theorem nA (hm : cN R w) {T T' Tr el : TypeId} {ti : TI} (hT : P.underlying T = some (.slice el)) (he : aP P el ti) {t : Ty} (hts : t.size = ti.size) {c ep off len : Nat} {xs ys : List t.T}
    (hc : R.hp c = some ⟨ep, .row t xs⟩) {v x : Value} {news : List Value} (hp : R.part c ep off len v) (hsrc : Src P R w t ys x news) :
    Bv P R w (Builtin.copy_ #[T, T'] Tr #[v, x]) ⟨.int (min ys.length len : Nat), [(c, ⟨ep, .row t (xs.take off ++ (ys.take (min ys.length len) ++ xs.drop (off + min ys.length len)))⟩)]⟩ := by
  obtain ⟨ht, hmx⟩ := H2 hm hc
  obtain ⟨_, h2, ad, cap, rfl, hcap, h5⟩ := Ctx.cT hc hp
  simp only [Chunk.shape] at h2 h5
  have hn : min ys.length len ≤ ys.length := Nat.min_le_left _ _
  have hn2 : min ys.length len ≤ len := Nat.min_le_right _ _
  have hr : inR ((min ys.length len : Nat) : Int) = true := NM (Nat.le_trans hn hsrc.max)
  have hf := hsrc.cells w (min ys.length len) (fun _ _ => rfl) hn
  rw [hts] at hf
  have hlen : (xs.take off ++ (ys.take (min ys.length len) ++ xs.drop (off + min ys.length len))).length = xs.length := by
    simp only [List.length_append, List.length_take, List.length_drop]; omega
  have hsh : (Chunk.row t (xs.take off ++ (ys.take (min ys.length len) ++ xs.drop (off + min ys.length len)))).shape = (Chunk.row t xs).shape := by
    simp only [Chunk.shape, hlen]
  have hnl : (news.take (min ys.length len * ti.size)).length = min ys.length len * t.size := by
    have : min ys.length len * t.size ≤ ys.length * t.size := Nat.mul_le_mul_right _ hn
    rw [List.length_take, hsrc.size, ← hts]; omega
  have hrep : ∀ i, i < min ys.length len → Rep R.F t (ys.getD i t.d) (seg (news.take (min ys.length len * ti.size)) (i * t.size) t.size) := fun i hi => by
    have h1 : (i + 1) * t.size ≤ min ys.length len * t.size := Nat.mul_le_mul_right _ hi
    rw [Nat.succ_mul] at h1
    have h2 : seg (news.take (min ys.length len * ti.size)) (i * t.size) t.size = seg news (i * t.size) t.size := by
      have := ug news 0 (i * t.size) (min ys.length len * ti.size) t.size (by rw [← hts]; exact h1)
      simpa [seg] using this
    rw [h2]
    exact hsrc.rep i (by omega)
  have hch := hm.ch c _ hc
  have hone : ∀ u ∈ news.take (min ys.length len * ti.size), u.oneCell' = true := fun u hu => hsrc.one u (List.mem_of_mem_take hu)
  -- nothing is written
  have nothing : min ys.length len = 0 → (∀ a, ad = some a → True) → Bv P R w (Builtin.copy_ #[T, T'] Tr #[.slice ad len cap, x]) ⟨.int (min ys.length len : Nat), [(c, ⟨ep, .row t (xs.take off ++ (ys.take (min ys.length len) ++ xs.drop (off + min ys.length len)))⟩)]⟩ := fun h0 _ => by
    have hrun : (Builtin.copy_ #[T, T'] Tr #[.slice ad len cap, x]).run P w = .ok (.int .i64 (min ys.length len : Nat)) w := by
      rw [h0] at hf ⊢
      simp only [Nat.zero_mul, List.take_zero] at hf
      cases ad with
      | none => simp [Builtin.copy_, run_underlying hT, he.bP w, hsrc.len w, h0, hf, goInt]
      | some a => simp [Builtin.copy_, run_underlying hT, he.bP w, hsrc.len w, h0, hf, goInt, Go.storeCells]
    have hsame : xs.take off ++ (ys.take (min ys.length len) ++ xs.drop (off + min ys.length len)) = xs := by
      rw [h0]; simp
    have hupd : R.upd c ⟨ep, .row t xs⟩ = R := by
      unfold Ctx.upd
      cases R
      simp only [Ctx.mk.injEq, true_and]
      funext n
      split
      · rename_i hnc; subst hnc; exact hc.symm
      · rfl
    refine ⟨_, w, R, hrun, ⟨Ctx.Ext.refl R, ?_, hm⟩, by simp only [SV.rel, true_and]; exact hr⟩
    rw [hsame]
    have := congrArg Ctx.hp hupd
    exact this.symm
  by_cases h0 : min ys.length len = 0
  · exact nothing h0 (fun _ _ => trivial)
  · cases hσ : R.σ c with
    | none =>
      rw [hσ] at h5
      simp only at h5
      omega
    | some L =>
      rw [hσ] at h5
      obtain ⟨h6, h7⟩ := h5
      have had := h7 (by omega)
      subst had
      simp only [eg, hσ] at hch
      obtain ⟨_, _, hF, hU, arr, E, hb, ha, hl, hrow⟩ := hch
      have hoff : (off + min ys.length len) * t.size ≤ xs.length * t.size := Nat.mul_le_mul_right _ (by omega)
      rw [Nat.add_mul] at hoff
      obtain ⟨w', R', hst, haf⟩ := lb (P := P) (e := ep) (p := L.base + off * t.size) (vs := news.take (min ys.length len * ti.size)) hm
        (ch' := ⟨ep, .row t (xs.take off ++ (ys.take (min ys.length len) ++ xs.drop (off + min ys.length len)))⟩) hc rfl hσ hF hU hb rfl rfl hsh (by rw [hnl]; omega) hone
        (fun w' hw' => by
          simp only [eg, Ctx.upd, hσ]
          refine ⟨ht, by rw [hlen]; exact hmx, hF, hU, _, E, hw', ?_, by rw [hlen]; exact hl, ?_⟩
          · simp only [List.size_toArray, List.length_append, List.length_take, List.length_drop, Array.length_toList] at hnl ⊢
            omega
          · exact Yz hrow (by omega) (by omega) hn hnl hrep)
      refine ⟨.int .i64 ((min ys.length len : Nat) : Int), w', R', ?_, haf, by simp only [SV.rel, true_and]; exact hr⟩
      have hn' : Nat.min ys.length len = min ys.length len := rfl
      simp [Builtin.copy_, run_underlying hT, he.bP w, hsrc.len w, hn', hf, hst, goInt]
theorem Kw (hm : cN R w) {te : TE} (hte : j3 P te) {T T' Tr : TypeId} {x y : SV} {v u : Value} {e : Eff} (h : (Ey te R.hp T x y).run = some e)
    (hs : SV.rel R x v) (hx : SV.rel R y u) : Bv P R w (Builtin.copy_ #[T, T'] Tr #[v, u]) e := by
  unfold Ey at h
  split at h
  · rename_i el _ _ hT
    obtain ⟨ds, h1, h2⟩ := (hte T _ hT).desc
    simp only at h2
    subst h2
    split at h
    · rename_i size bytes desc zero t hei
      have he := hte el _ hei
      split at h
      · cases h
      · rename_i hc
        simp only [not_or] at hc
        obtain ⟨hts, hs0⟩ := hc
        have hts : t.size = size := by simpa using hts
        have ht : 0 < t.size := by omega
        split at h
        · rename_i ys hys
          have hsrc : ∃ news, Src P R w t ys u news := by
            split at hys
            · exact Yu hys hx
            · exact EP hm ht hys hx
          obtain ⟨news, hsrc⟩ := hsrc
          split at h
          · rename_i c ep
            split at h
            · rename_i t' xs hc
              split at h
              · rename_i xs' hxs
                cases h
                obtain ⟨et, rfl⟩ := aU hxs
                subst et
                simp only [SV.rel] at hs
                have hc' := cl hc
                have := nA (Tr := Tr) (T' := T') hm h1 he hts hc' (Ctx.cy hc' hs.2) hsrc
                simp only [Chunk.shape, List.take_zero, List.nil_append, Nat.zero_add, Rm, af7] at this
                exact this
              · cases h
            · cases h
          · rename_i c ep off len
            split at h
            · rename_i t' xs hc
              split at h
              · rename_i xs' hxs
                cases h
                obtain ⟨et, rfl⟩ := aU hxs
                subst et
                simp only [SV.rel] at hs
                have := nA (Tr := Tr) (T' := T') hm h1 he hts (cl hc) hs.2 hsrc
                simp only [Rm] at this
                exact this
              · cases h
            · cases h
          · cases h
        · cases h
    · cases h
  · cases h
end
end Sx
end Go.Proofs.YtohjofabochgfaaGreat

namespace Go.Proofs.YtohjofabochgfaaGreat
namespace Sx
open Go
section
variable {P : Program} {R : Ctx} {w : World}
theorem mo {arr e : TypeId} {n : Nat} (a : Option Addr) (len cap : Nat) (h : P.underlying arr = some (.array n e)) (hn : n ≤ len) : (Instr.arrayAt arr (.slice a len cap)).run P w = .ok (.pointer a) w := by
  have h1 : ¬ len < n := by omega
  simp only [Instr.arrayAt, Sem.run_bind, run_underlying h, Result.andThen_ok, if_neg h1, Sem.run_pure]
theorem CV {te : TE} (hte : j3 P te) {T : TypeId} {x z : SV} {v : Value} (h : (o1 te R.hp T x).run = some z) (hx : SV.rel R x v) : gQ P R w (Instr.arrayAt T v) z := by
  unfold o1 at h
  split at h
  · rename_i sz by' n e ze ty hT
    obtain ⟨d, h1, h2⟩ := (hte T _ hT).desc
    simp only at h2
    subst h2
    split at h
    · cases h
    · rename_i ei hei
      split at h
      · cases h
      · rename_i hn0
        split at h
        · rename_i c ep
          split at h
          · rename_i hrs
            split at h
            · rename_i m hm'
              obtain ⟨hg, h'⟩ := OT.aA h
              cases h'
              have hnm := of_decide_eq_true hg
              simp only [SV.rel] at hx
              obtain ⟨bb, hcc, hb1, hb2⟩ := cQ hrs
              obtain ⟨bb', hcc', _, hb4⟩ := cC hm'
              rw [hcc] at hcc'
              cases Option.some.inj hcc'
              have hp := Ctx.cy hcc hx.2
              rw [hb4] at hp
              obtain ⟨_, _, ad, cap, rfl, h4, h5⟩ := Ctx.cT hcc hp
              refine ⟨_, mo ad m cap h1 hnm, ?_⟩
              cases hσ : R.σ c with
              | none => rw [hσ] at h5; simp only at h5; omega
              | some L =>
                rw [hσ] at h5
                have := h5.2 (by omega)
                subst this
                simp only [SV.rel]
                refine ⟨⟨_, rfl⟩, _, hcc, Nat.le_refl _, fun _ => ⟨L, hσ, ?_⟩⟩
                simp
            · cases h
          · cases h
        · rename_i c ep off len
          split at h
          · rename_i hrs
            obtain ⟨hg, h'⟩ := OT.aA h
            cases h'
            have hnm := of_decide_eq_true hg
            simp only [SV.rel] at hx
            obtain ⟨bb, hcc, hb1, hb2⟩ := cQ hrs
            obtain ⟨_, _, ad, cap, rfl, h4, h5⟩ := Ctx.cT hcc hx.2
            refine ⟨_, mo ad len cap h1 hnm, ?_⟩
            cases hσ : R.σ c with
            | none => rw [hσ] at h5; simp only at h5; omega
            | some L =>
              rw [hσ] at h5
              have := h5.2 (by omega)
              subst this
              simp only [SV.rel]
              exact ⟨⟨_, rfl⟩, _, hcc, Nat.le_refl _, fun _ => ⟨L, hσ, by simp⟩⟩
          · cases h
        · rename_i t xs
          split at h
          · rename_i hts
            obtain ⟨hg, h'⟩ := OT.aA h
            cases h'
            have hnm := of_decide_eq_true hg
            simp only [SV.rel] at hx
            obtain ⟨_, ad, cap, hv, hc, hr⟩ := hx
            cases hv
            refine ⟨_, mo ad xs.length cap h1 hnm, ?_⟩
            rcases hr with hr | ⟨b, o, arr, E, fz, rfl, hF, hs, hr⟩
            · rw [hr] at hnm; simp at hnm; omega
            · simp only [SV.rel]
              exact ⟨fun e => by rw [e] at hnm; simp at hnm; omega, by omega, b, o, arr, E, fz, rfl, hF, hs, hr⟩
          · cases h
        · cases h
  · cases h
def Ctx.more (R : Ctx) (w w' : World) : Ctx := { R with F := fun b => if b < w.heap.size then R.F b else w'.heap[b]? }
theorem ajC (hm : cN R w) {w₁ : World} (ja : ∀ b, b < w.heap.size → w₁.heap[b]? = w.heap[b]?) (hs : OR w w₁ := by exact ⟨rfl, rfl, rfl⟩) : dJ R (R.more w w₁) w₁ [] := by
  have hFlt : ∀ b o, R.F b = some o → b < w.heap.size := fun b o h => (Array.getElem?_eq_some_iff.1 (hm.F b o h)).1
  have hx2 : R.Ext (R.more w w₁) := ⟨fun b o h => by simp [Ctx.more, hFlt b o h, h], rfl, fun c ch hc => ⟨ch, hc, Nat.le_refl _, fun _ => ⟨rfl, rfl⟩⟩⟩
  refine ⟨hx2, rfl, fun b o h => ?_, fun b o h => ?_, fun c ch hc => ?_, hm.apart, fun b o h => ?_, hm.env.trans hs⟩
  rotate_right
  · simp only [Ctx.more] at h ⊢
    split at h
    · exact hm.FU b o h
    · cases hU : R.U b with
      | none => rfl
      | some o' => exact absurd (Array.getElem?_eq_some_iff.1 (hm.U b o' hU)).1 (by assumption)
  · simp only [Ctx.more] at h
    split at h
    · rename_i hb
      rw [ja b hb]; exact hm.F b o h
    · exact h
  · have := hm.U b o h
    rw [ja b (Array.getElem?_eq_some_iff.1 this).1, this]
  · have hch := hm.ch c ch hc
    obtain ⟨ep, body⟩ := ch
    cases body with
    | row t xs =>
      simp only [eg] at hch ⊢
      refine ⟨hch.1, hch.2.1, ?_⟩
      replace hch := hch.2.2
      show match R.σ c with | none => _ | some L => _
      cases hL : R.σ c with
      | none => rw [hL] at hch; exact hch
      | some L =>
        rw [hL] at hch
        obtain ⟨c1, c2, arr, E, c3, c4, c5, c6⟩ := hch
        have hb := (Array.getElem?_eq_some_iff.1 c3).1
        refine ⟨by simp only [Ctx.more, hb, if_true]; exact c1, c2, arr, E, (ja _ hb).trans c3, c4, c5, fun i hi => bO hx2.F _ _ _ (c6 i hi)⟩
    | frz t xs =>
      simp only [eg] at hch ⊢
      refine ⟨hch.1, hch.2.1, ?_⟩
      replace hch := hch.2.2
      show match R.σ c with | none => _ | some L => _
      cases hL : R.σ c with
      | none => rw [hL] at hch; exact hch
      | some L =>
        rw [hL] at hch
        obtain ⟨arr, E, fz, c3, c4, c5, c6⟩ := hch
        exact ⟨arr, E, fz, hx2.F _ _ c3, c4, c5, fun i hi => bO hx2.F _ _ _ (c6 i hi)⟩
    | cells vs =>
      simp only [eg] at hch ⊢
      obtain ⟨L, hL, c1, c2, arr, E, c3, c4, c5, c6, c7⟩ := hch
      have hb := (Array.getElem?_eq_some_iff.1 c3).1
      exact ⟨L, hL, by simp only [Ctx.more, hb, if_true]; exact c1, c2, arr, E, (ja _ hb).trans c3, c4, c5, SV.dZ hx2 _ _ c6, c7⟩
theorem G7 (hm : cN R w) {te : TE} (hte : j3 P te) {src dst : TypeId} {x : SV} {v : Value} {s : List UInt8} (h : bytesOf te src dst x = some s) (hx : SV.rel R x v) :
    ∃ u w' R', (convert src dst v).run P w = .ok u w' ∧ dJ R R' w' [] ∧ SV.rel R' (.lst .u8 s) u := by
  unfold bytesOf at h
  split at h
  · rename_i sz by' e ze ty hT
    obtain ⟨d, h1, h2⟩ := (hte dst _ hT).desc
    simp only at h2
    subst h2
    split at h
    · rename_i sz2 by2 ze2 ty2 hE
      obtain ⟨d2, g1, g2⟩ := (hte e _ hE).desc
      simp only at g2
      subst g2
      split at h
      · rename_i s'
        split at h
        · rename_i hs
          cases h
          obtain ⟨ti, hti⟩ := Option.isSome_iff_exists.1 hs
          obtain ⟨d3, k1, _⟩ := (hte src ti hti).desc
          simp only [SV.rel] at hx
          obtain ⟨rfl, hl⟩ := hx
          have hrun := Lib.run_convert_string_bytes (P := P) w src dst e ⟨s.toArray⟩ k1 h1 g1
          have ja : ∀ b, b < w.heap.size → (Lib.bytesWorld w e ⟨s.toArray⟩).heap[b]? = w.heap[b]? := fun b hb => Lib.bytesWorld_at_old w e _ b hb
          refine ⟨_, _, R.more w (Lib.bytesWorld w e ⟨s.toArray⟩), hrun, ajC hm ja, ?_⟩
          have hsz : (⟨s.toArray⟩ : ByteArray).size = s.length := by simp [ByteArray.size]
          simp only [SV.rel]
          refine ⟨hl, some ⟨w.heap.size, 0, none⟩, _, by rw [hsz], ?_, ?_⟩
          · have := grownCap_ge w (⟨s.toArray⟩ : ByteArray).size 0 e
            rw [hsz] at this
            exact this
          · by_cases he : s = []
            · exact .inl he
            · right
              refine ⟨w.heap.size, 0, Lib.bytesCells w e ⟨s.toArray⟩, e, ((Lib.bytesCells w e ⟨s.toArray⟩).size, (Lib.bytesCells w e ⟨s.toArray⟩).size + 1), rfl, ?_, ?_, fun i hi => ?_⟩
              · simp only [Ctx.more, Nat.lt_irrefl, if_false]
                exact Lib.bytesWorld_at_new w e _
              · simp [Lib.bytesCells, Ty.size]
              · have hc : (Lib.bytesCells w e ⟨s.toArray⟩).toList = (s.map vu8) ++ List.replicate (grownCap w (⟨s.toArray⟩ : ByteArray).size 0 e - (⟨s.toArray⟩ : ByteArray).size) (.int .u8 0) := by
                  simp [Lib.bytesCells, vu8]
                rw [hc]
                simp only [Ty.size, Nat.mul_one, Nat.zero_add]
                have hseg : seg ((s.map vu8) ++ List.replicate (grownCap w (⟨s.toArray⟩ : ByteArray).size 0 e - (⟨s.toArray⟩ : ByteArray).size) (.int .u8 0)) i 1 = [vu8 (s.getD i 0)] := by
                  simp only [seg]
                  rw [List.drop_append_of_le_length (by simp; omega), List.drop_eq_getElem_cons (by simpa using hi)]
                  simp [List.getD_eq_getElem?_getD, hi]
                rw [hseg]
                rfl
        · cases h
      · cases h
    · cases h
  · cases h
def Ctx.j0 (R : Ctx) (c : Nat) (ch : Ch) (b : Nat) (o : Obj) : Ctx :=
  ⟨fun b' => if b' = b then some o else R.F b', R.U, fun c' => if c' = c then none else R.σ c', fun c' => if c' = c then some ch else R.hp c'⟩
theorem SF (hm : cN R w) {c e : Nat} {t : Ty} {xs : List t.T} {L : Loc} {w₁ : World} {o : Obj} (hc : R.hp c = some ⟨e, .row t xs⟩) (hσ : R.σ c = some L)
    (ja : ∀ b, b ≠ L.block → w₁.heap[b]? = w.heap[b]?) (hb : w₁.heap[L.block]? = some o) (hs : OR w w₁) : dJ R (R.j0 c ⟨e + 1, .row .u8 []⟩ L.block o) w₁ [(c, ⟨e + 1, .row .u8 []⟩)] := by
  have h0 := hm.ch c _ hc
  simp only [eg, hσ] at h0
  obtain ⟨_, _, hF, hU, _⟩ := h0
  have hx : R.Ext (R.j0 c ⟨e + 1, .row .u8 []⟩ L.block o) := ⟨fun b o' h => by
      have : b ≠ L.block := fun e' => by rw [e', hF] at h; cases h
      simp only [Ctx.j0, if_neg this, h], rfl, fun c' ch' hc' => by
      by_cases h1 : c' = c
      · subst h1
        rw [hc] at hc'
        cases hc'
        exact ⟨⟨e + 1, .row .u8 []⟩, by simp only [Ctx.j0, if_true], Nat.le_succ e, fun e' => absurd e' (by simp)⟩
      · exact ⟨ch', by simp only [Ctx.j0, if_neg h1, hc'], Nat.le_refl _, fun _ => ⟨rfl, by simp only [Ctx.j0, if_neg h1]⟩⟩⟩
  refine ⟨hx, rfl, fun b o' h => ?_, fun b o' h => ?_, fun c' ch' hc' => ?_, fun c1 c2 ch1 ch2 L1 L2 g1 g2 g3 g4 g5 g6 g7 => ?_, fun b o' h => ?_, hm.env.trans hs⟩
  · simp only [Ctx.j0] at h
    split at h
    · rename_i h1
      subst h1
      rw [hb]; exact h
    · rename_i h1
      rw [ja b h1]; exact hm.F b o' h
  · have h1 : b ≠ L.block := fun e' => by
      have h' : R.U b = some o' := h
      rw [e', hU] at h'; cases h'
    rw [ja b h1]; exact hm.U b o' h
  · by_cases h1 : c' = c
    · subst h1
      simp only [Ctx.j0, if_true] at hc'
      cases hc'
      simp only [eg, Ctx.j0, if_true]
      exact ⟨by decide, by simp, trivial⟩
    · simp only [Ctx.j0, if_neg h1] at hc'
      have hch := hm.ch c' ch' hc'
      have hs : (R.j0 c ⟨e + 1, .row .u8 []⟩ L.block o).σ c' = R.σ c' := by simp only [Ctx.j0, if_neg h1]
      have hblk : ∀ L', R.σ c' = some L' → ch'.body.mut = true → L'.block ≠ L.block := fun L' h2 h3 h4 => h1 (hm.apart c' c _ _ _ _ hc' hc h3 rfl h2 hσ h4)
      have hFn : ∀ b, b ≠ L.block → R.F b = none → (R.j0 c ⟨e + 1, .row .u8 []⟩ L.block o).F b = none := fun b h2 h3 => by simp only [Ctx.j0, if_neg h2, h3]
      obtain ⟨ep, body⟩ := ch'
      cases body with
      | row t ys =>
        simp only [eg] at hch ⊢
        rw [hs]
        refine ⟨hch.1, hch.2.1, ?_⟩
        replace hch := hch.2.2
        cases hL : R.σ c' with
        | none => rw [hL] at hch; exact hch
        | some L' =>
          rw [hL] at hch
          obtain ⟨c1, c2, arr, E, c3, c4, c5, c6⟩ := hch
          have hne := hblk L' hL rfl
          exact ⟨hFn _ hne c1, c2, arr, E, (ja _ hne).trans c3, c4, c5, fun i hi => bO hx.F _ _ _ (c6 i hi)⟩
      | frz t ys =>
        simp only [eg] at hch ⊢
        rw [hs]
        refine ⟨hch.1, hch.2.1, ?_⟩
        replace hch := hch.2.2
        cases hL : R.σ c' with
        | none => rw [hL] at hch; exact hch
        | some L' =>
          rw [hL] at hch
          obtain ⟨arr, E, fz, c3, c4, c5, c6⟩ := hch
          exact ⟨arr, E, fz, hx.F _ _ c3, c4, c5, fun i hi => bO hx.F _ _ _ (c6 i hi)⟩
      | cells vs =>
        simp only [eg] at hch ⊢
        obtain ⟨L', hL, c1, c2, arr, E, c3, c4, c5, c6, c7⟩ := hch
        have hne := hblk L' hL rfl
        exact ⟨L', by rw [hs]; exact hL, hFn _ hne c1, c2, arr, E, (ja _ hne).trans c3, c4, c5, SV.dZ hx _ _ c6, c7⟩
  · by_cases h1 : c1 = c
    · subst h1
      simp only [Ctx.j0, if_true] at g5
      cases g5
    · by_cases h2 : c2 = c
      · subst h2
        simp only [Ctx.j0, if_true] at g6
        cases g6
      · simp only [Ctx.j0, if_neg h1] at g1 g5
        simp only [Ctx.j0, if_neg h2] at g2 g6
        exact hm.apart _ _ _ _ _ _ g1 g2 g3 g4 g5 g6 g7
  · simp only [Ctx.j0] at h
    split at h
    · rename_i h1
      subst h1
      exact hU
    · exact hm.FU b o' h
theorem nG {te : TE} {hp : Hp} {src dst : TypeId} {x : SV} {c e : Nat} {s : List UInt8} (h : ef te hp src dst x = some (c, e, s)) :
    src = dst ∧ (∃ sz by' E ze ty sz2 by2 ze2 ty2, te dst = some ⟨sz, by', .slice E, ze, ty⟩ ∧ te E = some ⟨sz2, by2, .int .u8, ze2, ty2⟩) ∧ x = .own c e ∧ dI hp c e = some (.row .u8 s) ∧ s ≠ [] := by
  unfold ef at h
  split at h
  · rename_i hs
    split at h
    · rename_i h1
      split at h
      · rename_i h2
        split at h
        · split at h
          · rename_i h3
            cases h
            exact ⟨Nat.eq_of_beq_eq_true hs, ⟨_, _, _, _, _, _, _, _, _, h1, h2⟩, rfl, h3, by simp⟩
          · cases h
        · cases h
      · cases h
    · cases h
  · cases h
theorem xN (hm : cN R w) {te : TE} (hte : j3 P te) {src dst : TypeId} {x : SV} {v : Value} {c e : Nat} {s : List UInt8} (h : ef te R.hp src dst x = some (c, e, s)) (hx : SV.rel R x v) :
    Bv P R w (convert src dst v) ⟨.lst .u8 s, [(c, ⟨e + 1, .row .u8 []⟩)]⟩ := by
  obtain ⟨rfl, ⟨sz, by', E, ze, ty, sz2, by2, ze2, ty2, hT, hE⟩, rfl, hc, hs⟩ := nG h
  obtain ⟨d, h1, h2⟩ := (hte src _ hT).desc
  simp only at h2
  subst h2
  obtain ⟨d2, g1, g2⟩ := (hte E _ hE).desc
  simp only at g2
  subst g2
  have hc := cl hc
  simp only [SV.rel] at hx
  have hp := Ctx.cy hc hx.2
  obtain ⟨_, _, ad, cap, rfl, h4, h5⟩ := Ctx.cT hc hp
  have hlen : 0 < s.length := List.length_pos_iff.2 hs
  cases hσ : R.σ c with
  | none =>
    rw [hσ] at h5
    simp only [Chunk.shape] at h4 h5
    omega
  | some L =>
    rw [hσ] at h5
    simp only [Chunk.shape, Ty.size] at h4 h5
    have hcap : 0 < cap := by omega
    have had := h5.2 hcap
    subst had
    have h0 := hm.ch c _ hc
    simp only [eg, hσ] at h0
    obtain ⟨_, hl, hF, hU, arr, E', k1, k2, k3, k4⟩ := h0
    have hsh : w.shape? L.block = some (E', arr.size) := by unfold World.shape?; rw [k1]
    have hfr : (w.freeze ⟨L.block, arr.size, none⟩ 1).heap = w.heap.modify L.block fun
      | .cells c elem (lo, hi) => .cells c elem (if lo == hi then (arr.size, arr.size + 1) else (min lo arr.size, max hi (arr.size + 1)))
      | o => o := rfl
    have hlt := (Array.getElem?_eq_some_iff.1 k1).1
    have hb : (w.freeze ⟨L.block, arr.size, none⟩ 1).heap[L.block]? = some (.cells arr E' (arr.size, arr.size + 1)) := by
      rw [hfr, Array.getElem?_modify, if_pos rfl, k1]
      rfl
    have ja : ∀ b, b ≠ L.block → (w.freeze ⟨L.block, arr.size, none⟩ 1).heap[b]? = w.heap[b]? := fun b hb => by
      rw [hfr, Array.getElem?_modify, if_neg (fun e => hb e.symm)]
    have hlk : OR w (w.freeze ⟨L.block, arr.size, none⟩ 1) := ⟨rfl, rfl, rfl⟩
    refine ⟨.slice (some ⟨L.block, L.base + 0 * 1, none⟩) s.length cap, w.freeze ⟨L.block, arr.size, none⟩ 1, R.j0 c ⟨e + 1, .row .u8 []⟩ L.block _, ?_, SF hm hc hσ ja hb hlk, ?_⟩
    · simp [convert, run_underlying h1, run_underlying g1, markStringish, hsh, Chunk.shape]
    · simp only [SV.rel, Rep]
      refine ⟨hl, _, cap, rfl, h4, .inr ⟨L.block, L.base, arr, E', (arr.size, arr.size + 1), by simp, by simp only [Ctx.j0, if_true], by omega, fun i hi => ?_⟩⟩
      have hr := k4 i hi
      simp only [Ty.size] at hr ⊢
      exact bO (SF hm hc hσ ja hb hlk).ext.F _ _ _ hr
theorem F1 {te : TE} (hte : j3 P te) {T : TypeId} {x z : SV} {v y : Value} (h : (Nf te T x).run = some z) (hx : SV.rel R x v) (hy : ∃ n c, y = .slice none n c) :
    (∃ q l k, v = .slice q l k) ∧ ∃ u, (binOp .eql T v y).run P w = .ok u w ∧ SV.rel R z u := by
  unfold Nf at h
  split at h
  · rename_i sz by' e ze ty hT
    obtain ⟨d, h1, h2⟩ := (hte T _ hT).desc
    simp only at h2
    subst h2
    obtain ⟨n, c, rfl⟩ := hy
    split at h
    · rename_i t xs
      simp only [SV.rel] at hx
      obtain ⟨_, ad, cap, hv, _, hr⟩ := hx
      cases hv
      refine ⟨⟨_, _, _, rfl⟩, ?_⟩
      have hrun := Lib.run_eql_slice_nil (P := P) w T e ad xs.length cap n c h1
      refine ⟨_, hrun, ?_⟩
      cases hb : xs.isEmpty
      · rw [hb] at h
        cases h
        simp only [SV.rel]
        rcases hr with rfl | ⟨b, o, arr, E, fz, rfl, _⟩
        · cases hb
        · rfl
      · rw [hb] at h
        cases h
        simp only [SV.rel]
        exact ⟨_, rfl⟩
    · cases h
      simp only [SV.rel] at hx
      obtain ⟨ad, rfl⟩ := hx
      refine ⟨⟨_, _, _, rfl⟩, _, Lib.run_eql_slice_nil w T e ad 0 0 n c h1, ?_⟩
      simp only [SV.rel]
      exact ⟨_, rfl⟩
    · cases h
  · cases h
end
end Sx
end Go.Proofs.YtohjofabochgfaaGreat

namespace Go.Proofs.YtohjofabochgfaaGreat
namespace Sx
open Go
def TS (R : Ctx) : Out → Ending → World → Prop
  | .ret e, en, w' => ∃ v R', en = .returned v ∧ dJ R R' w' e.upd ∧ SV.rel R' e.v v
  | .pan sv u, en, w' => ∃ v R', en = .panicked [{ v, recovered := false }] ∧ dJ R R' w' u ∧ SV.rel R' sv v
def amb (P : Program) (f : FuncId) (vs : Array Value) (w : World) (Q : Ending → World → Prop) : Prop :=
  (∃ fn, P.funcs[f]? = some fn ∧ (fn.name == "runtime.NumGoroutine") = false ∧ fn.body.isNone = false ∧ Calls P f vs w Q) ∨
  ∃ v w', (callFunc f vs).run P w = .ok (.value v) w' ∧ Q (.returned v) w'
structure ac (P : Program) (f : FuncId) (s : cv) : Prop where
  calls : ∀ (R : Ctx) (w : World) (d : Nat) (args : List SV) (vs : List Value) (out : Out), cN R w → SV.bH R args vs → (s.f d args R.hp).run = some out → amb P f vs.toArray w (TS R out)
def aQ (P : Program) (Φ : Env) : Prop := ∀ f s, Φ f = some s → ac P f s
section
variable {P : Program} {R : Ctx} {w : World}
theorem JW {x : SV} {i : Int} {v : Value} (h : idxOf x = some i) (hx : SV.rel R x v) : ∃ kd, v = .int kd i := by
  unfold idxOf at h
  split at h
  · cases h
    simp only [SV.rel] at hx
    exact ⟨_, hx.1⟩
  · cases h
    simp only [SV.rel] at hx
    exact ⟨_, hx⟩
  · cases h
    simp only [SV.rel] at hx
    exact ⟨_, hx⟩
  · cases h
theorem D8 : ∀ {ms : List (String × FuncId)} {name : String} {f : FuncId}, Sw ms name = some f → (name, f) ∈ ms
  | [], _, _, h => by cases h
  | (n, g) :: r, name, f, h => by
    simp only [Sw] at h
    cases hb : n == name
    · rw [hb] at h
      exact List.mem_cons_of_mem _ (D8 h)
    · rw [hb] at h
      cases h
      have : n = name := by simpa using hb
      subst this
      exact List.mem_cons_self ..
theorem Vi {te : TE} (hte : j3 P te) {t : TypeId} {name : String} {f : FuncId} (h : aam te t name = some f) (y : Value) (n : Nat) (hn : n = P.types.size + Made.depth) : (method n t y name).run P w = .ok (f, y) w := by
  unfold aam at h
  split at h
  · rename_i sz by' ms ze ty hT
    obtain ⟨d, hu, hd⟩ := (hte t _ hT).desc
    obtain ⟨⟨e, rfl⟩, hm⟩ := hd
    obtain ⟨i, m, h1, h2, h3, h4⟩ := hm _ (D8 h)
    subst hn
    have hfuel : P.types.size + Made.depth = (P.types.size + Made.depth - 1) + 1 := by
      have : 0 < Made.depth := by decide
      omega
    rw [hfuel]
    simp [method, typeInfo, h1, h2, h3, h4, follow, receiverAt, run_underlying hu, Place.get]
  · cases h
theorem oU {st : St} {a : Act} (h : py R st a w) (x : Operand) : SV.rel R (st.eval x) (a.eval x) := by
  cases x with
  | tmp t =>
    simp only [St.eval, Act.eval]
    have hl := SV.aK h.tm
    simp only [Array.length_toList] at hl
    by_cases ht : t < st.tm.length
    · have ht' : t < a.tmps.size := by simpa [hl] using ht
      have := SV.jy h.tm t ht (by simpa using ht')
      simpa [List.getD_eq_getElem?_getD, List.getElem?_eq_getElem ht, Array.getD, ht'] using this
    · simp [List.getD_eq_getElem?_getD, List.getElem?_eq_none (Nat.le_of_not_lt ht), SV.rel]
  | const v =>
    simp only [St.eval, Act.eval, ajo]
    split
    · rename_i cs
      split
      · rename_i h1
        simp only [SV.rel]
        exact ⟨cs.toList, by simp, pN _, fun u hu => List.all_eq_true.1 h1 u hu⟩
      · simp only [SV.rel]
    · exact C7 _
  | global g => simp [St.eval, SV.rel]
  | func f =>
    simp [St.eval, Act.eval, SV.rel, SV.bH]
theorem Gl {α β : Type} (f : α → β) (xs : Array α) : Array.map f xs = (xs.toList.map f).toArray := by
  apply Array.ext'
  simp
theorem Fo {st : St} {a : Act} (h : py R st a w) : ∀ (l : List Operand), SV.bH R (l.map st.eval) (l.map a.eval)
  | [] => n9
  | x :: l => by
    simp only [List.map_cons, SV.bH]
    exact ⟨_, _, rfl, oU h x, Fo h l⟩
theorem Jo {st : St} {a : Act} (h : py R st a w) (ps : Array (Nat × Operand)) : Hn R (ps.toList.map fun p => (p.1, st.eval p.2)) (ps.map fun (i, x) => (i, a.eval x)).toList := by
  refine ⟨by simp, fun i hi hi' => ?_⟩
  simp only [List.getElem_map, Array.toList_map, true_and]
  exact oU h _
theorem bi {x : OT SV} {o : Out} (h : (gv x).run = some o) : ∃ z, x.run = some z ∧ o = .ret ⟨z, []⟩ := by
  obtain ⟨z, h1, h2⟩ := OT.run_map h
  exact ⟨z, h1, h2⟩
theorem lK {x : OT Eff} {o : Out} (h : (eff x).run = some o) : ∃ e, x.run = some e ∧ o = .ret e := by
  obtain ⟨z, h1, h2⟩ := OT.run_map h
  exact ⟨z, h1, h2⟩
def acn (R : Ctx) (a : Act) (dst : Option Tmp) (out : Out) (next : Act → World → Prop) (Q : Exit → Act → World → Prop) : Prop :=
  match out with
  | .ret e => ∀ R' w' v, dJ R R' w' e.upd → SV.rel R' e.v v → next (a.put dst v) w'
  | .pan sv u => ∀ R' w' v, dJ R R' w' u → SV.rel R' sv v → Q (.panic [{ v, recovered := false }]) a w'
theorem cP {o : Oper} {a : Act} {z : SV} {next : Act → World → Prop} {Q : Exit → Act → World → Prop} {s : Sem Value} (hm : cN R w) (hs : execOp a.eval o = do pure (.value (← s))) (h : gQ P R w s z)
    (hn : acn R a o.dst (.ret ⟨z, []⟩) next Q) : o.wp P a w next Q := by
  obtain ⟨v, h1, h2⟩ := h
  unfold Oper.wp
  rw [hs]
  simp only [Sem.run_bind, h1, Result.andThen_ok, Sem.run_pure]
  exact hn R w v (dJ.nothing hm) h2
theorem ju {o : Oper} {a : Act} {e : Eff} {next : Act → World → Prop} {Q : Exit → Act → World → Prop} {s : Sem Value} (hs : execOp a.eval o = do pure (.value (← s))) (h : Bv P R w s e)
    (hn : acn R a o.dst (.ret e) next Q) : o.wp P a w next Q := by
  obtain ⟨v, w', R', h1, h2, h3⟩ := h
  unfold Oper.wp
  rw [hs]
  simp only [Sem.run_bind, h1, Result.andThen_ok, Sem.run_pure]
  exact hn R' w' v h2 h3
theorem sA (hm : cN R w) {te : TE} (hte : j3 P te) {T : TypeId} {ti : TI} (hT : te T = some ti) {x : SV} {v : Value} {cs : List SV} (hx : SV.rel R x v) (h : (Sx.loadCells R.hp ti.size x).run = some cs) :
    ∃ ad, v = .pointer (some ad) ∧ gQ P R w (loadVar T ad) (mg ti.desc.agg cs) := by
  have ht := hte T ti hT
  obtain ⟨b, o, arr, E, fz, rfl, hb, hsz, hr, hone⟩ := Al hm hx h
  refine ⟨_, rfl, ?_⟩
  cases ha : ti.desc.agg
  · have h1 := ht.one ha
    rw [h1] at hsz hr
    refine ⟨arr[o], ?_, aak hsz hr⟩
    simp only [loadVar, Sem.run_bind, ht.yL w, ha, Result.andThen_ok, Bool.false_eq_true, if_false]
    exact H0 hb hsz
  · refine ⟨_, ?_, sy hr hone⟩
    simp only [loadVar, Sem.run_bind, ht.yL w, ha, Result.andThen_ok, if_true, ht.bP w, wu hb hsz, Sem.run_pure]
theorem CI (hm : cN R w) {te : TE} (hte : j3 P te) {T : TypeId} {ti : TI} (hT : te T = some ti) {x y : SV} {v u : Value} {l : List SV} {up : List (Nat × Ch)} (hx : SV.rel R x v) (hy : SV.rel R y u) (hl : y.cells = some l)
    (hsz : l.length = ti.size) (h : (Sx.storeCells R.hp l x).run = some up) : ∃ ad w' R', v = .pointer (some ad) ∧ (storeVar T ad u).run P w = .ok () w' ∧ dJ R R' w' up := by
  have ht := hte T ti hT
  obtain ⟨vs, h1, h2, h3⟩ := yP hy hl
  have hlen := SV.aK h2
  obtain ⟨ad, w', R', rfl, h4, h5⟩ := xH (P := P) hm hx h2 h
  refine ⟨ad, w', R', rfl, ?_, h5⟩
  simp only [storeVar, Sem.run_bind, ht.bP w, Result.andThen_ok, h1, Sem.run_ite, List.size_toArray]
  rw [if_neg (by omega)]
  exact h4
theorem Ew {te : TE} {Φ : Env} (hte : j3 P te) (hΦ : aQ P Φ) {st : St} {a : Act} {o : Oper} {d : Nat} {out : Out} (hst : py R st a w) (h : (Ex te Φ st.hp d st.eval o.op).run = some out)
    {next : Act → World → Prop} {Q : Exit → Act → World → Prop} (hn : acn R a o.dst out next Q) : o.wp P a w next Q := by
  have hm := hst.mem
  have ev := oU hst
  rw [← hst.hp] at h
  obtain ⟨dst, op, type, pos, after, guard⟩ := o
  simp only at h hn
  cases op <;> simp only [Ex] at h <;> try (cases h; done)
  case move x =>
    obtain ⟨z, h1, rfl⟩ := bi h
    cases h1
    exact hn R w _ (dJ.nothing hm) (ev x)
  case assign x =>
    obtain ⟨z, h1, rfl⟩ := bi h
    cases h1
    exact hn R w _ (dJ.nothing hm) (ev x)
  case pick c x y =>
    split at h
    · rename_i b hb
      obtain ⟨z, h1, rfl⟩ := bi h
      have hc := ev c
      rw [hb] at hc
      simp only [SV.rel] at hc
      have hrun : (execOp a.eval (Oper.mk dst (.pick c x y) type pos after guard)).run P w = .ok (.value (if b then a.eval x else a.eval y)) w := by
        simp [execOp, hc, asBool]
      unfold Oper.wp
      rw [hrun]
      cases b
      · cases h1; exact hn R w _ (dJ.nothing hm) (ev y)
      · cases h1; exact hn R w _ (dJ.nothing hm) (ev x)
    · cases h
  case alloc T =>
    split at h
    · rename_i ti hT
      obtain ⟨e, h1, rfl⟩ := lK h
      have ht := hte T ti hT
      obtain ⟨i, z, z1, z2, z3, z4, z5, z6, z7⟩ := ht.n0 (R := R)
      obtain ⟨ad, w', R', r1, r2, r3⟩ := wE (P := P) hm (v := z) (vs := z.cells.toList) (by simp) z5 z7 (by have := ht.small; simp [z6, cb]; omega) h1
      refine ju rfl ⟨_, w', R', ?_, r2, r3⟩ hn
      simp only [Instr.alloc, Sem.run_bind, zeroValue, typeInfo, run_program, Result.andThen_ok, z1, z4, Sem.run_pure, r1]
    · cases h
  case box T x =>
    split at h
    · rename_i l hl
      obtain ⟨e, h1, rfl⟩ := lK h
      obtain ⟨vs, v1, v2, v3⟩ := yP (ev x) hl
      have hlen := SV.aK v2
      have hsz : l.length ≤ 16777216 := by
        unfold Sx.newVar at h1
        split at h1
        · cases h1
        · rename_i ti hT
          split at h1
          · cases h1
          · rename_i hh
            have := (hte T ti hT).small
            have hh : l.length = ti.size := by simpa using hh
            omega
      obtain ⟨ad, w', R', r1, r2, r3⟩ := wE (P := P) hm (v := a.eval x) (vs := vs) v1 v2 v3 (by unfold cb; omega) h1
      refine ju rfl ⟨_, w', R', ?_, r2, r3⟩ hn
      simp only [Instr.box, Sem.run_bind, Sem.run_pure, Result.andThen_ok, r1]
    · cases h
  case build T ps =>
    obtain ⟨z, h1, rfl⟩ := bi h
    exact cP hm rfl (Oz hte h1 (Jo hst ps)) hn
  case buildSlice T len ps =>
    obtain ⟨e, h1, rfl⟩ := lK h
    exact ju rfl (xP hm hte h1 (Jo hst ps)) hn
  case load T x =>
    split at h
    · rename_i ti hT
      obtain ⟨z, h1, rfl⟩ := bi h
      obtain ⟨cs, h2, rfl⟩ := OT.run_map h1
      obtain ⟨ad, hv, hg⟩ := sA (P := P) hm hte hT (ev x) h2
      refine cP hm rfl ?_ hn
      obtain ⟨v, g1, g2⟩ := hg
      refine ⟨v, ?_, g2⟩
      simp only [Instr.loadAt, hv, Instr.sureAddr, Sem.run_bind, Sem.run_pure, Result.andThen_ok, g1]
    · cases h
  case store T x y =>
    split at h
    · rename_i ti hT
      split at h
      · rename_i l hl
        split at h
        · rename_i hsz
          obtain ⟨u, h1, rfl⟩ := OT.run_map h
          obtain ⟨ad, w', R', hv, g1, g2⟩ := CI (P := P) hm hte hT (ev x) (ev y) hl hsz h1
          have hrun : (execOp a.eval (Oper.mk dst (.store T x y) type pos after guard)).run P w = .ok .skip w' := by
            simp only [execOp, Instr.storeAt, hv, Instr.sureAddr, Sem.run_bind, Sem.run_pure, Result.andThen_ok, g1]
          unfold Oper.wp
          rw [hrun]
          exact hn R' w' _ g2 (by simp only [SV.rel])
        · cases h
      · cases h
    · cases h
  case nilCheck x =>
    have hx := ev x
    have hrun : ∀ ad, a.eval x = .pointer (some ad) → (execOp a.eval (Oper.mk dst (.nilCheck x) type pos after guard)).run P w = .ok (.value (a.eval x)) w := fun ad hv => by
      simp [execOp, hv]
    split at h
    · rename_i c e i off hs
      obtain ⟨z, h1, rfl⟩ := bi h
      cases h1
      rw [hs] at hx
      have hx' := hx
      simp only [SV.rel] at hx
      obtain ⟨⟨ad, hv⟩, _⟩ := hx
      unfold Oper.wp
      rw [hrun ad hv]
      exact hn R w _ (dJ.nothing hm) hx'
    · rename_i t xs i off hs
      obtain ⟨z, h1, rfl⟩ := bi h
      cases h1
      rw [hs] at hx
      have hx' := hx
      simp only [SV.rel] at hx
      obtain ⟨_, b, o, arr, E, fz, hv, _⟩ := hx
      unfold Oper.wp
      rw [hrun _ hv]
      exact hn R w _ (dJ.nothing hm) hx'
    · rename_i t y hs
      obtain ⟨z, h1, rfl⟩ := bi h
      cases h1
      rw [hs] at hx
      have hx' := hx
      simp only [SV.rel] at hx
      obtain ⟨y', hv, _⟩ := hx
      have hrun2 : (execOp a.eval (Oper.mk dst (.nilCheck x) type pos after guard)).run P w = .ok (.value (a.eval x)) w := by simp [execOp, hv]
      unfold Oper.wp
      rw [hrun2]
      exact hn R w _ (dJ.nothing hm) hx'
    · cases h
  case binOp op T x y T2 =>
    split at h
    · rename_i hy
      obtain ⟨z, h1, rfl⟩ := bi h
      have hy' : ∃ n c, a.eval y = .slice none n c := by
        unfold Ed at hy
        split at hy
        · exact ⟨_, _, rfl⟩
        · cases hy
      obtain ⟨n, c, hyv⟩ := hy'
      obtain ⟨⟨q, l, k, hxv⟩, u, hu1, hu2⟩ := F1 (P := P) (w := w) hte h1 (ev x) ⟨n, c, hyv⟩
      exact cP hm rfl ⟨u, dN (X := x) (Y := y) (by rw [hxv, hyv]; simp [eqGuard]) hu1, hu2⟩ hn
    · obtain ⟨z, h1, rfl⟩ := bi h
      exact cP hm rfl (KV hte h1 (ev x) (ev y)) hn
  case sliceToArrayPointer T x =>
    obtain ⟨z, h1, rfl⟩ := bi h
    exact cP hm rfl (CV hte h1 (ev x)) hn
  case unOp op T x =>
    obtain ⟨z, h1, rfl⟩ := bi h
    exact cP hm rfl (T6 h1 (ev x)) hn
  case convert src dst' x =>
    split at h
    · rename_i s hs
      obtain ⟨z, h1, rfl⟩ := bi h
      cases h1
      obtain ⟨u, w', R', r1, r2, r3⟩ := G7 (P := P) hm hte hs (ev x)
      exact ju rfl ⟨u, w', R', r1, r2, r3⟩ hn
    · split at h
      · rename_i hs
        obtain ⟨z, h1, rfl⟩ := lK h
        cases h1
        exact ju rfl (xN (P := P) hm hte hs (ev x)) hn
      · obtain ⟨z, h1, rfl⟩ := bi h
        exact cP hm rfl (GW hte h1 (ev x)) hn
  case makeInterface T x =>
    split at h
    · rename_i ti hT
      obtain ⟨ds, hu, hd⟩ := (hte T ti hT).desc
      have hmk : ∀ y : Value, (Instr.makeInterface T y).run P w = .ok (.iface T y) w ∨ (match ti.desc with | .iface => True | .other => True | _ => False) := fun y => by
        unfold Instr.makeInterface
        simp only [Sem.run_bind, run_underlying hu, Result.andThen_ok]
        cases hk : ti.desc <;> rw [hk] at hd <;> simp only at hd <;> first
          | (exact .inr trivial; done)
          | (left; obtain ⟨_, rfl, _⟩ := hd; rfl)
          | (left; obtain ⟨⟨_, rfl⟩, _⟩ := hd; rfl)
          | (left; subst hd; rfl)
      have hq : ¬ (match ti.desc with | .iface => True | .other => True | _ => False) := fun hq => by
        cases hk : ti.desc <;> rw [hk] at hq h <;> first | exact hq | (simp only at h; cases h)
      have h2 : (gv (.ok (.iface T (st.eval x)))).run = some out := by
        cases hk : ti.desc <;> rw [hk] at h hq <;> first | exact h | (exact absurd trivial hq)
      obtain ⟨z, h1, rfl⟩ := bi h2
      cases h1
      refine cP hm rfl ⟨.iface T (a.eval x), (hmk _).resolve_right hq, ?_⟩ hn
      simp only [SV.rel]
      exact ⟨_, rfl, ev x⟩
    · cases h
  case makeFunc f first caps =>
    obtain ⟨z, h1, rfl⟩ := bi h
    cases h1
    refine cP hm rfl ⟨_, rfl, ?_⟩ hn
    simp only [SV.rel]
    exact ⟨first.toList.map a.eval, caps.toList.map a.eval, by rw [Gl, Gl], Fo hst _, Fo hst _⟩
  case makeSlice T l c =>
    split at h
    · rename_i l' c' hl hc
      obtain ⟨e, h1, rfl⟩ := lK h
      have e1 := ev l
      have e2 := ev c
      rw [hl] at e1
      rw [hc] at e2
      simp only [SV.rel] at e1 e2
      have := Ag (P := P) hm hte h1
      rw [← e1.1, ← e2.1] at this
      exact ju rfl this hn
    · cases h
  case slice T x lo hi mx =>
    obtain ⟨z, h1, rfl⟩ := bi h
    have some_rel : ∀ (q : Option Operand) (y : SV), q.map st.eval = some y → ∃ v, q.map a.eval = some v ∧ SV.rel R y v := fun q y hy => by
      cases q with
      | none => cases hy
      | some u => cases hy; exact ⟨_, rfl, ev u⟩
    have none_rel : ∀ (q : Option Operand), q.map st.eval = none → q.map a.eval = none := fun q hq => by
      cases q with
      | none => rfl
      | some u => cases hq
    exact cP hm rfl (Fj hm hte h1 (ev x) (some_rel lo) (none_rel lo) (some_rel hi) (none_rel hi) (some_rel mx) (none_rel mx)) hn
  case fieldAddr S x f =>
    split at h
    · rename_i fs _ _ hS
      split at h
      · rename_i o fi hf
        split at h
        · cases h
        · rename_i h0
          obtain ⟨z, h1, rfl⟩ := bi h
          exact cP hm rfl (AU hte hS rfl hf h0 h1 (ev x)) hn
      · cases h
    · cases h
  case field S x f =>
    split at h
    · rename_i fs _ _ l hS hl
      split at h
      · rename_i o fi hf
        split at h
        · rename_i hle
          obtain ⟨z, h1, rfl⟩ := bi h
          cases h1
          have hx := ev x
          rw [hl] at hx
          exact cP hm rfl (N0 hte hS rfl hf hle hx) hn
        · cases h
      · cases h
    · cases h
  case indexAddr T x k =>
    split at h
    · rename_i i hk
      obtain ⟨z, h1, rfl⟩ := bi h
      obtain ⟨kd, e1⟩ := JW hk (ev k)
      have := Aq (P := P) (w := w) (kd := kd) hte h1 (ev x)
      rw [← e1] at this
      exact cP hm rfl this hn
    · cases h
  case index T x k =>
    split at h
    · rename_i i hk
      obtain ⟨z, h1, rfl⟩ := bi h
      obtain ⟨kd, e1⟩ := JW hk (ev k)
      have := CS (P := P) (w := w) (kd := kd) hte h1 (ev x)
      rw [← e1] at this
      exact cP hm rfl this hn
    · cases h
  case extract t i =>
    split at h
    · rename_i l hl
      split at h
      · rename_i v hv
        obtain ⟨z, h1, rfl⟩ := bi h
        cases h1
        have hx := ev t
        rw [hl] at hx
        simp only [SV.rel] at hx
        obtain ⟨vs, he, hr⟩ := hx
        have hlen := SV.aK hr
        obtain ⟨hi, hvi⟩ := List.getElem?_eq_some_iff.1 hv
        refine cP hm rfl ⟨vs[i]'(by omega), ?_, ?_⟩ hn
        · simp [Instr.extract, he, show i < vs.length by omega]
        · rw [← hvi]; exact SV.jy hr i hi (by omega)
      · cases h
    · cases h
  case call c =>
    obtain ⟨callee, args, argTypes⟩ := c
    simp only at h
    have hargs := Fo hst args.toList
    have go : ∀ (f' : FuncId) (s : cv) (us : List SV) (l : List Value), Φ f' = some s → SV.bH R us l → (s.f d us R.hp).run = some out →
        (∀ r, (execOp a.eval (Oper.mk dst (.call { callee := callee, args, argTypes }) type pos after guard)).run P w = r ↔ (callFunc f' l.toArray).run P w = r) → (Oper.mk dst (.call { callee := callee, args, argTypes }) type pos after guard).wp P a w next Q := by
      intro f' s us l hs hr hout hexec
      have hc := (hΦ _ _ hs).calls R w d us l out hm hr hout
      rcases hc with ⟨fn, f1, f2, f3, hc⟩ | ⟨v, w', hv, hp⟩
      · have hrun : (callFunc f' l.toArray).run P w = .ok (.enter f' l.toArray) w := by
          have f2' : ¬ fn.name = "runtime.NumGoroutine" := by simpa using f2
          have f3' : ¬ fn.body = none := fun e => by rw [e] at f3; simp at f3
          simp [callFunc, f1, f2', f3']
        unfold Oper.wp
        rw [(hexec _).2 hrun, Oper.upon_enter]
        refine hc.mono fun en w' hp => ?_
        cases out with
        | ret e =>
          obtain ⟨v, R', rfl, p1, p2⟩ := hp
          exact hn R' w' v p1 p2
        | pan sv u =>
          obtain ⟨v, R', rfl, p1, p2⟩ := hp
          exact hn R' w' v p1 p2
      · unfold Oper.wp
        rw [(hexec _).2 hv]
        cases out with
        | ret e =>
          obtain ⟨v', R', he, p1, p2⟩ := hp
          cases he
          exact hn R' w' v p1 p2
        | pan sv u =>
          obtain ⟨v', R', he, p1, p2⟩ := hp
          cases he
    split at h
    · rename_i f
      unfold abS at h
      split at h
      · rename_i f' first caps hf
        split at h
        · rename_i s hs
          have hx := ev f
          rw [hf] at hx
          simp only [SV.rel] at hx
          obtain ⟨l1, l2, he, r1, r2⟩ := hx
          refine go f' s _ (l1 ++ args.toList.map a.eval ++ l2) hs (SV.ck (SV.ck r1 hargs) r2) h fun r => ?_
          have : (execOp a.eval (Oper.mk dst (.call { callee := .value f, args, argTypes }) type pos after guard)).run P w = (callFunc f' (l1 ++ args.toList.map a.eval ++ l2).toArray).run P w := by
            simp [execOp, resolve, he, Deferred.ofValue, invoke, Gl]
          rw [this]
        · cases h
      · cases h
    · rename_i recv name
      unfold G6 at h
      split at h
      · rename_i t v hv
        split at h
        · rename_i f' hf
          split at h
          · rename_i s hs
            have hx := ev recv
            rw [hv] at hx
            simp only [SV.rel] at hx
            obtain ⟨y, he, hy⟩ := hx
            refine go f' s (v :: args.toList.map st.eval) (y :: args.toList.map a.eval) hs (by simp only [SV.bH]; exact ⟨_, _, rfl, hy, hargs⟩) h fun r => ?_
            have hmeth := Vi (P := P) (w := w) hte hf y _ rfl
            have : (execOp a.eval (Oper.mk dst (.call { callee := .invoke recv name, args, argTypes }) type pos after guard)).run P w = (callFunc f' (y :: args.toList.map a.eval).toArray).run P w := by
              have e1 : (Array.map a.eval args) = (args.toList.map a.eval).toArray := Gl _ _
              have e2 : (#[Value.iface t y] ++ (args.toList.map a.eval).toArray)[0]? = some (.iface t y) := by simp
              have e3 : (#[Value.iface t y] ++ (args.toList.map a.eval).toArray).extract 1 (#[Value.iface t y] ++ (args.toList.map a.eval).toArray).size = (args.toList.map a.eval).toArray := by
                apply Array.ext'
                simp only [Array.toList_extract, Array.toList_append, List.extract_eq_take_drop]
                simp
                exact List.take_of_length_le (by simp)
              have e4 : #[y] ++ (args.toList.map a.eval).toArray = (y :: args.toList.map a.eval).toArray := by simp
              simp only [execOp, resolve, he, e1, Sem.run_bind, Sem.run_pure, Result.andThen_ok, invoke, e2, e3, callMethod, run_program, hmeth, e4]
            rw [this]
          · cases h
        · cases h
      · cases h
    · split at h
      · rename_i x T Ts hax hat
        obtain ⟨z, h1, rfl⟩ := bi h
        have ha : args = #[x] := by apply Array.ext'; simpa using hax
        have hat' : argTypes = (T :: Ts).toArray := by apply Array.ext'; simpa using hat
        subst ha
        have := NI (P := P) (Tr := type) (Ts := Ts) hm hte h1 (ev x)
        rw [← hat'] at this
        refine cP hm ?_ this hn
        simp [execOp, resolve, invoke, builtin]
      · cases h
    · split at h
      · rename_i s x T T' hax hat
        split at h
        · rename_i hsl
          obtain ⟨e, h1, rfl⟩ := lK h
          have ha : args = #[s, x] := by apply Array.ext'; simpa using hax
          have hat' : argTypes = #[T, T'] := by apply Array.ext'; simpa using hat
          subst ha
          subst hat'
          have := CX (P := P) (Tr := type) hm hte hsl h1 (ev s) (ev x)
          refine ju ?_ this hn
          simp [execOp, resolve, invoke, builtin]
        · cases h
      · cases h
    · split at h
      · rename_i s x T T' hax hat
        obtain ⟨e, h1, rfl⟩ := lK h
        have ha : args = #[s, x] := by apply Array.ext'; simpa using hax
        have hat' : argTypes = #[T, T'] := by apply Array.ext'; simpa using hat
        subst ha
        subst hat'
        have := Kw (P := P) (Tr := type) (T' := T') hm hte h1 (ev s) (ev x)
        refine ju ?_ this hn
        simp [execOp, resolve, invoke, builtin]
      · cases h
    · split at h
      · rename_i x y hax
        split at h
        · rename_i p q hp hq
          obtain ⟨z, h1, rfl⟩ := bi h
          cases h1
          have ha : args = #[x, y] := by apply Array.ext'; simpa using hax
          subst ha
          have e1 := ev x
          have e2 := ev y
          rw [hp] at e1
          rw [hq] at e2
          simp only [SV.rel] at e1 e2
          refine cP (s := Builtin.max_ argTypes type #[a.eval x, a.eval y]) hm ?_ ?_ hn
          · simp [execOp, resolve, invoke, builtin]
          · refine bV ?_ ?_
            · simp [Builtin.max_, e1.1, e2.1, Builtin.max2]
            · split
              · exact e2.2
              · exact e1.2
        · cases h
      · cases h
    · cases h
end
end Sx
end Go.Proofs.YtohjofabochgfaaGreat

namespace Go.Proofs.YtohjofabochgfaaGreat
namespace Sx
open Go
section
variable {P : Program} {te : TE} {Φ : Env}
structure E9 (R₀ : Ctx) (K : SE → St → Prop) (Q : Exit → Act → World → Prop) : Prop where
  normal : ∀ R st a w, R₀.Ext R → py R st a w → K .normal st → Q .normal a w
  ret : ∀ R st a w, R₀.Ext R → py R st a w → K .ret st → Q .ret a w
  exit : ∀ R st a w id, R₀.Ext R → py R st a w → K (.exit id) st → Q (.exit id) a w
  pan : ∀ R st a w sv v, R₀.Ext R → py R st a w → SV.rel R sv v → K (.pan sv) st → Q (.panic [{ v, recovered := false }]) a w
theorem py.put {R R' : Ctx} {st : St} {a : Act} {w w' : World} {e : Eff} {v : Value} (h : py R st a w) (ha : dJ R R' w' e.upd) (hv : SV.rel R' e.v v) (dst : Option Tmp) : py R' (st.put dst e) (a.put dst v) w' := by
  refine ⟨?_, ha.mem, ?_, ?_⟩
  · rw [ha.hp, h.hp]; rfl
  · have := SV.dZ ha.ext _ _ h.tm
    cases dst with
    | none => exact this
    | some d =>
      simp only [St.put, xK, Act.put, Array.toList_setIfInBounds]
      exact SV.Rx this d hv
  · cases dst <;> exact h.defers
theorem py.undef {R : Ctx} {st : St} {a : Act} {w : World} (h : py R st a w) (dst : Option Tmp) : py R (st.put dst ⟨.undef, []⟩) (a.put dst Go.undef) w :=
  h.put (dJ.nothing h.mem) (by simp only [SV.rel]) dst
theorem py.ak2 {R R' : Ctx} {st : St} {a : Act} {w w' : World} {u : List (Nat × Ch)} (h : py R st a w) (ha : dJ R R' w' u) : py R' ⟨st.tm, eK st.hp u⟩ a w' :=
  ⟨by rw [ha.hp, h.hp], ha.mem, SV.dZ ha.ext _ _ h.tm, h.defers⟩
theorem pu {R : Ctx} {st : St} {a : Act} {w : World} (h : py R st a w) {ops : Array Oper} {o : Oper} {b : Bool} (hg : guarded ops.toList st.tm o = some b) : Region.wanted o (yielded ops a.tmps) = b := by
  unfold guarded at hg
  unfold Region.wanted
  split at hg
  · rename_i hn
    rw [hn]
    exact Option.some.inj hg
  · rename_i j want hj
    rw [hj]
    simp only
    split at hg
    · rename_i d hd
      have hd' : (ops[j]?).bind (·.dst) = some d := by simpa using hd
      have hl := SV.aK h.tm
      simp only [Array.length_toList] at hl
      have get : st.tm.getD d .bt ≠ .bt → ∃ hlt : d < a.tmps.size, SV.rel R (st.tm.getD d .bt) a.tmps[d] := fun hne => by
        by_cases ht : d < st.tm.length
        · have ht' : d < a.tmps.size := Nat.lt_of_lt_of_eq ht hl.symm
          refine ⟨ht', ?_⟩
          have := SV.jy h.tm d ht (by simpa using ht')
          simpa [List.getD_eq_getElem?_getD, List.getElem?_eq_getElem ht] using this
        · exact absurd (by simp [List.getD_eq_getElem?_getD, List.getElem?_eq_none (Nat.le_of_not_lt ht)]) hne
      split at hg
      · rename_i q hq
        obtain ⟨hlt, hr⟩ := get (by rw [hq]; exact fun e => by cases e)
        rw [hq] at hr
        simp only [SV.rel] at hr
        have hy : yielded ops a.tmps j = some q := by
          unfold yielded
          rw [hd']
          simp [hlt, hr]
        rw [hy, ← Option.some.inj hg]
        rfl
      · rename_i hq
        obtain ⟨hlt, hr⟩ := get (by rw [hq]; exact fun e => by cases e)
        rw [hq] at hr
        simp only [SV.rel] at hr
        have hy : yielded ops a.tmps j = none := by
          unfold yielded
          rw [hd']
          simp [hlt, hr, Go.undef]
        rw [hy, ← Option.some.inj hg]
        rfl
      · cases hg
    · cases hg
theorem k7 (hte : j3 P te) (hΦ : aQ P Φ) {R₀ : Ctx} {ops : Array Oper} {K : SE → St → Prop} {Q : Exit → Act → World → Prop} (hK : E9 R₀ K Q) :
    ∀ (l : List Oper) (R : Ctx) (st : St) (a : Act) (w : World), R₀.Ext R → py R st a w → mj te Φ ops.toList K l st → wpList P ops Q l a w
  | [], R, st, a, w, hx, hst, h => hK.normal R st a w hx hst h
  | o :: r, R, st, a, w, hx, hst, h => by
    simp only [mj] at h
    split at h
    · exact h.elim
    · rename_i b hb
      have hw := pu hst hb
      simp only [wpList, hw]
      cases b
      · simp only [Bool.false_eq_true, if_false]
        exact k7 hte hΦ hK r R _ _ w hx (hst.undef o.dst) h
      · simp only [if_true]
        refine .inl ?_
        obtain ⟨out, h1, h2⟩ := OT.Pm h
        refine Ew hte hΦ hst h1 ?_
        cases out with
        | ret e => exact fun R' w' v ha hv => k7 hte hΦ hK r R' _ _ w' (hx.trans ha.ext) (hst.put ha hv o.dst) h2
        | pan sv u => exact fun R' w' v ha hv => hK.pan R' _ a w' sv v (hx.trans ha.ext) (hst.ak2 ha) hv h2
def HH (P : Program) (R₀ : Ctx) (b : Code) (l : St → (SE → St → Prop) → Prop) : Prop :=
  ∀ (R : Ctx) (st : St) (a : Act) (w : World) (K : SE → St → Prop) (Q : Exit → Act → World → Prop), R₀.Ext R → py R st a w → l st K → E9 R₀ K Q → b.wp P Q a w
def blocks : Code → List (Nat × Code)
  | .seq a b => blocks a ++ blocks b
  | .cond _ a b => blocks a ++ blocks b
  | .block id c => (id, c) :: blocks c
  | .loop c => blocks c
  | .scope c => blocks c
  | _ => []
def Bw (P : Program) (R₀ : Ctx) (Λ : Lam) (c : Code) : Prop := ∀ p ∈ blocks c, ∀ l, Λ p.1 = some l → HH P R₀ (.block p.1 p.2) l
def aV (P : Program) (te : TE) (Φ : Env) : Prop := ∀ (R₀ : Ctx) (id : Nat) (ops : Array Oper) (K : SE → St → Prop) (Q : Exit → Act → World → Prop) (R : Ctx) (st : St) (a : Act) (w : World), E9 R₀ K Q → R₀.Ext R → py R st a w →
  ec Φ ops (me ops) = true → dW te Φ ops.toList (me ops) (Vp te Φ ops (me ops) st) K st 0 ops.toList [] → (Code.region id ops true).wp P Q a w
theorem acy {Λ : Lam} {n : Nat} {c : Code} {st : St} {K : SE → St → Prop} : wps te Φ Λ (n + 1) c st K = (match c with
      | .skip => K .normal st
      | .region _ ops draw => cond draw (cond (ec Φ ops (me ops)) (dW te Φ ops.toList (me ops) (Vp te Φ ops (me ops) st) K st 0 ops.toList []) False) (mj te Φ ops.toList K ops.toList st)
      | .seq a b => wps te Φ Λ n a st fun e st' => match e with
        | .normal => wps te Φ Λ n b st' K
        | e => K e st'
      | .cond c a b => match st.eval c with
        | .bool t => cond t (wps te Φ Λ n a st K) (wps te Φ Λ n b st K)
        | .agr => (wps te Φ Λ n a st K) ∧ (wps te Φ Λ n b st K)
        | _ => False
      | .block id body => match Λ id with
        | some l => l st K
        | none => wps te Φ Λ n body st fun e st' => match e with
          | .exit j => cond (j == id) (K .normal st') (K (.exit j) st')
          | e => K e st'
      | .loop body => wps te Φ Λ n body st fun e st' => match e with
          | .normal => wps te Φ Λ n (.loop body) st' K
          | e => K e st'
      | .exit id => K (.exit id) st
      | .ret => K .ret st
      | _ => False) := by
  cases c <;> try rfl
  case region id ops draw =>
    simp only
    rw [← Ee, ← N7]
    rfl
  case block id body =>
    simp only
    have : ∀ (e : SE) (st' : St), (match e with
        | .exit j => ifB (Nat.beq j id) (K .normal st') (K (.exit j) st')
        | e => K e st') = (match e with
        | .exit j => cond (j == id) (K .normal st') (K (.exit j) st')
        | e => K e st') := fun e st' => by
      cases e <;> try rfl
      rename_i j
      have hb : Nat.beq j id = (j == id) := by
        rw [Bool.eq_iff_iff, beq_iff_eq]
        exact ⟨Nat.eq_of_beq_eq_true, fun e => by rw [e]; exact Nat.beq_refl id⟩
      simp only [hb, SH]
    show (match Λ id with
      | some l => l st K
      | none => wps te Φ Λ n body st fun e st' => match e with
        | .exit j => ifB (Nat.beq j id) (K .normal st') (K (.exit j) st')
        | e => K e st') = _
    simp only [this]
def TR (P : Program) (c : Code) (Q : Exit → Act → World → Prop) (a : Act) (w : World) : Prop :=
  ∀ (b : Frame) (k : List Item) (cs : List Frame), ∃ e a' w', Q e a' w' ∧ Arrives P (lone (b.at a (.code c :: .inLoop c :: k)) cs w) b k cs e a' w'
theorem wo {c : Code} {Q : Exit → Act → World → Prop} {a : Act} {w : World} (h : TR P c Q a w) : (Code.loop c).wp P Q a w :=
  fun b k cs => let ⟨e, a', w', hq, harr⟩ := h b k cs; ⟨e, a', w', hq, .of_steps (.one step_loop) harr⟩
theorem Ak {c : Code} {Q : Exit → Act → World → Prop} {a : Act} {w : World} (h : c.wp P (fun e a' w' => match e with | .normal => TR P c Q a' w' | e => Q e a' w') a w) : TR P c Q a w := by
  intro b k cs
  obtain ⟨e, a₁, w₁, hq, harr⟩ := h b (.inLoop c :: k) cs
  cases e with
  | normal =>
    obtain ⟨e₂, a₂, w₂, hq₂, harr₂⟩ := hq b k cs
    exact ⟨e₂, a₂, w₂, hq₂, .of_steps (Steps.trans harr (.one step_inLoop)) harr₂⟩
  | exit id => exact ⟨_, a₁, w₁, hq, .pass (x := .inLoop c) rfl (fun _ _ => .inl (by simp)) harr⟩
  | goto l => exact ⟨_, a₁, w₁, hq, .pass (x := .inLoop c) rfl (fun _ _ => .inl (by simp)) harr⟩
  | ret => exact ⟨_, a₁, w₁, hq, .pass (x := .inLoop c) rfl (fun _ _ => .inl (by simp)) harr⟩
  | panic ch => exact ⟨_, a₁, w₁, hq, .pass (x := .inLoop c) rfl (fun _ _ => .inl (by simp)) harr⟩
  | outgrown => exact ⟨_, a₁, w₁, hq, .pass (x := .inLoop c) rfl (fun _ _ => .inl (by simp)) harr⟩
def Shown (P : Program) (c : Code) (Q : Exit → Act → World → Prop) (a : Act) (w : World) : Prop :=
  match c with
  | .loop body => TR P body Q a w
  | c => c.wp P Q a w
theorem Shown.wp {c : Code} {Q : Exit → Act → World → Prop} {a : Act} {w : World} (h : Shown P c Q a w) : c.wp P Q a w := by
  cases c <;> first | exact h | exact wo h
theorem ek (hte : j3 P te) (hΦ : aQ P Φ) (hany : aV P te Φ) {R₀ : Ctx} {Λ : Lam} : ∀ (n : Nat) (c : Code) (R : Ctx) (st : St) (a : Act) (w : World) (K : SE → St → Prop) (Q : Exit → Act → World → Prop), Bw P R₀ Λ c →
    R₀.Ext R → py R st a w → wps te Φ Λ n c st K → E9 R₀ K Q → Shown P c Q a w
  | 0, c, R, st, a, w, K, Q, _, _, _, h, _ => h.elim
  | n + 1, c, R, st, a, w, K, Q, hΛ, hx, hst, h, hK => by
    rw [acy] at h
    cases c <;> simp only at h <;> try (exact h.elim)
    case skip => exact wp_skip (hK.normal R st a w hx hst h)
    case region id ops draw =>
      cases draw
      · exact wp_region_list (k7 hte hΦ hK _ R st a w hx hst h)
      · cases hr : ec Φ ops (me ops)
        · rw [hr] at h; exact h.elim
        · rw [hr] at h
          exact hany R₀ id ops K Q R st a w hK hx hst hr h
    case seq x y =>
      refine wp_seq (ek hte hΦ hany n x R st a w _ _ (fun p hp => hΛ p (by simp [blocks, hp])) hx hst h ⟨?_, ?_, ?_, ?_⟩).wp
      · exact fun R' st' a' w' hx' hst' hk => (ek hte hΦ hany n y R' st' a' w' K Q (fun p hp => hΛ p (by simp [blocks, hp])) hx' hst' hk hK).wp
      · exact fun R' st' a' w' hx' hst' hk => hK.ret R' st' a' w' hx' hst' hk
      · exact fun R' st' a' w' id hx' hst' hk => hK.exit R' st' a' w' id hx' hst' hk
      · exact fun R' st' a' w' sv v hx' hst' hv hk => hK.pan R' st' a' w' sv v hx' hst' hv hk
    case cond c x y =>
      split at h
      · rename_i t ht
        have hc := oU hst c
        rw [ht] at hc
        simp only [SV.rel] at hc
        refine wp_cond hc ?_
        cases t
        · exact (ek hte hΦ hany n y R st a w K Q (fun p hp => hΛ p (by simp [blocks, hp])) hx hst h hK).wp
        · exact (ek hte hΦ hany n x R st a w K Q (fun p hp => hΛ p (by simp [blocks, hp])) hx hst h hK).wp
      · rename_i ht
        have hc := oU hst c
        rw [ht] at hc
        simp only [SV.rel] at hc
        obtain ⟨t, hc⟩ := hc
        refine wp_cond hc ?_
        cases t
        · exact (ek hte hΦ hany n y R st a w K Q (fun p hp => hΛ p (by simp [blocks, hp])) hx hst h.2 hK).wp
        · exact (ek hte hΦ hany n x R st a w K Q (fun p hp => hΛ p (by simp [blocks, hp])) hx hst h.1 hK).wp
      · exact h.elim
    case block id body =>
      split at h
      · rename_i l hl
        exact hΛ (id, body) (by simp [blocks]) l hl R st a w K Q hx hst h hK
      · refine wp_block (ek hte hΦ hany n body R st a w _ _ (fun p hp => hΛ p (by simp [blocks, hp])) hx hst h ⟨?_, ?_, ?_, ?_⟩).wp
        · exact fun R' st' a' w' hx' hst' hk => hK.normal R' st' a' w' hx' hst' hk
        · exact fun R' st' a' w' hx' hst' hk => hK.ret R' st' a' w' hx' hst' hk
        · intro R' st' a' w' j hx' hst' hk
          simp only [Exit.inBlock]
          by_cases e : j = id
          · subst e
            simp only [BEq.rfl, cond_true] at hk
            simp only [if_true]
            exact hK.normal R' st' a' w' hx' hst' hk
          · have : (j == id) = false := by simpa using e
            simp only [this, cond_false] at hk
            simp only [e, if_false]
            exact hK.exit R' st' a' w' j hx' hst' hk
        · exact fun R' st' a' w' sv v hx' hst' hv hk => hK.pan R' st' a' w' sv v hx' hst' hv hk
    case loop body =>
      refine Ak (ek hte hΦ hany n body R st a w _ _ (fun p hp => hΛ p (by simp [blocks, hp])) hx hst h ⟨?_, ?_, ?_, ?_⟩).wp
      · exact fun R' st' a' w' hx' hst' hk => ek hte hΦ hany n (.loop body) R' st' a' w' K Q hΛ hx' hst' hk hK
      · exact fun R' st' a' w' hx' hst' hk => hK.ret R' st' a' w' hx' hst' hk
      · exact fun R' st' a' w' id hx' hst' hk => hK.exit R' st' a' w' id hx' hst' hk
      · exact fun R' st' a' w' sv v hx' hst' hv hk => hK.pan R' st' a' w' sv v hx' hst' hv hk
    case exit id => exact wp_exit (hK.exit R st a w id hx hst h)
    case ret => exact wp_ret (hK.ret R st a w hx hst h)
theorem HL (hte : j3 P te) (hΦ : aQ P Φ) (hany : aV P te Φ) {R₀ : Ctx} {Λ : Lam} {n : Nat} {c : Code} {R : Ctx} {st : St} {a : Act} {w : World} {K : SE → St → Prop} {Q : Exit → Act → World → Prop} (hΛ : Bw P R₀ Λ c)
    (hx : R₀.Ext R) (hst : py R st a w) (h : wps te Φ Λ n c st K) (hK : E9 R₀ K Q) : c.wp P Q a w := (ek hte hΦ hany n c R st a w K Q hΛ hx hst h hK).wp
end
end Sx
end Go.Proofs.YtohjofabochgfaaGreat

namespace Go.Proofs.YtohjofabochgfaaGreat
namespace Sx
open Go
section
variable {P : Program} {te : TE} {Φ : Env}
theorem aaM {R : Ctx} {st : St} {a : Act} {w : World} (h : py R st a w) (t : Nat) : SV.rel R (st.tm.getD t .bt) (a.tmps.getD t Go.undef) := oU h (.tmp t)
def Rv (tmps : Array Value) : ResultVar → Sem Value
  | .tmp t => pure (tmps.getD t Go.undef)
  | .cell b t => do loadVar t (← asAddr (tmps.getD b Go.undef))
theorem OP (ad : Addr) : asAddr (.pointer (some ad)) = pure ad := rfl
theorem ir (hte : j3 P te) {R : Ctx} {st : St} {a : Act} {w : World} (h : py R st a w) : ∀ (rs : List ResultVar) (K : List SV → Prop), mu te st rs K →
    ∃ l vs, K l ∧ SV.bH R l vs ∧ (rs.mapM (Rv a.tmps)).run P w = .ok vs w
  | [], K, hk => ⟨[], [], hk, n9, rfl⟩
  | .tmp t :: r, K, hk => by
    obtain ⟨l, vs, h1, h2, h3⟩ := ir hte h r _ hk
    refine ⟨_, a.tmps.getD t Go.undef :: vs, h1, ?_, ?_⟩
    · simp only [SV.bH]; exact ⟨_, _, rfl, aaM h t, h2⟩
    · simp only [List.mapM_cons, Rv, Sem.run_bind, Sem.run_pure, Result.andThen_ok, h3]
  | .cell b T :: r, K, hk => by
    simp only [mu] at hk
    split at hk
    · rename_i ti hT
      obtain ⟨cs, h0, h1⟩ := OT.Pm hk
      obtain ⟨l, vs, h1, h2, h3⟩ := ir hte h r _ h1
      rw [← h.hp] at h0
      obtain ⟨ad, hv, v, g1, g2⟩ := sA (P := P) h.mem hte hT (aaM h b) h0
      refine ⟨_, v :: vs, h1, ?_, ?_⟩
      · simp only [SV.bH]; exact ⟨_, _, rfl, g2, h2⟩
      · simp only [List.mapM_cons, Rv, Sem.run_bind, hv, OP, Sem.run_pure, Result.andThen_ok, g1, h3]
    · exact hk.elim
theorem pl (hte : j3 P te) {R : Ctx} {st : St} {a : Act} {w : World} (h : py R st a w) {fn : Func} {K : SV → Prop} (hk : Ru te fn st K) :
    ∃ x v, K x ∧ SV.rel R x v ∧ (results fn a.tmps).run P w = .ok v w := by
  obtain ⟨l, vs, h1, h2, h3⟩ := ir hte h _ _ hk
  have hrun : (results fn a.tmps).run P w = .ok (if h : vs.toArray.size = 1 then vs.toArray[0] else .tuple vs.toArray) w := by
    have hfun : results fn a.tmps = (do
        let vs ← fn.results.mapM (Rv a.tmps)
        pure (if h : vs.size = 1 then vs[0] else .tuple vs)) := by
      unfold results
      congr 1
    rw [hfun, Sem.run_bind, Array.mapM_eq_mapM_toList, Sem.run_map, h3]
    rfl
  refine ⟨_, _, h1, ?_, hrun⟩
  have hl := SV.aK h2
  cases l with
  | nil =>
    simp only [SV.bH] at h2
    subst h2
    simp only [oneOf, SV.rel]
    exact ⟨[], by simp, n9⟩
  | cons x l =>
    cases l with
    | nil =>
      obtain ⟨v, rfl, hv⟩ := b9 h2
      simpa [oneOf] using hv
    | cons y l =>
      have hne : ¬ vs.toArray.size = 1 := by simp at hl ⊢; omega
      rw [dif_neg hne]
      simp only [oneOf, SV.rel]
      exact ⟨vs, rfl, h2⟩
def al9 (R : Ctx) (K Kp : SV → Hp → Prop) (en : Ending) (w' : World) : Prop :=
  (∃ x v R', en = .returned v ∧ R.Ext R' ∧ cN R' w' ∧ SV.rel R' x v ∧ K x R'.hp) ∨ (∃ x v R', en = .panicked [{ v, recovered := false }] ∧ R.Ext R' ∧ cN R' w' ∧ SV.rel R' x v ∧ Kp x R'.hp)
theorem WY (hte : j3 P te) (hΦ : aQ P Φ) (hany : aV P te Φ) {f : FuncId} {fn : Func} {c : Code} (hf : P.funcs[f]? = some fn) (hb : fn.body = some c) {R : Ctx} {Λ : Lam} (hΛ : Bw P R Λ c) {w : World} {n : Nat}
    {args : List SV} {vs : List Value} {K Kp : SV → Hp → Prop} (hm : cN R w) (ha : SV.bH R args vs) (h : wpf te Φ Λ n fn args R.hp K Kp) : Calls P f vs.toArray w (al9 R K Kp) := by
  unfold wpf at h
  rw [hb] at h
  simp only at h
  refine calls_of_wp hf hb (HL (R₀ := R) (R := R) hte hΦ hany hΛ (Ctx.Ext.refl R) ⟨rfl, hm, ?_, rfl⟩ h ⟨?_, ?_, ?_, ?_⟩)
  · have hl := SV.aK ha
    simp only [Array.toList_append, List.toList_toArray, Array.toList_replicate, List.size_toArray, hl]
    refine SV.ck ha (SV.uj (by simp) fun i h1 h2 => ?_)
    simp [SV.rel]
  · intro R' st a w' hx hst hk
    obtain ⟨x, v, h1, h2, h3⟩ := pl hte hst hk
    refine ⟨hst.defers, v, h3, .inl ⟨x, v, R', rfl, hx, hst.mem, h2, ?_⟩⟩
    rw [hst.hp]; exact h1
  · intro R' st a w' hx hst hk
    obtain ⟨x, v, h1, h2, h3⟩ := pl hte hst hk
    refine ⟨hst.defers, v, h3, .inl ⟨x, v, R', rfl, hx, hst.mem, h2, ?_⟩⟩
    rw [hst.hp]; exact h1
  · intro R' st a w' id hx hst hk
    exact hk.elim
  · intro R' st a w' sv v hx hst hv hk
    refine ⟨hst.defers, .inr ⟨sv, v, R', rfl, hx, hst.mem, hv, ?_⟩⟩
    rw [hst.hp]; exact hk
end
end Sx
end Go.Proofs.YtohjofabochgfaaGreat

namespace Go.Proofs.YtohjofabochgfaaGreat
namespace Sx
open Go
def ATy : List (Bool × Ty) → Type
  | [] => Unit
  | (_, t) :: r => t.T × ATy r
def ZT (hp : Hp) : (t : Ty) → List SV → Option t.T
  | .bool, cs => ZV cs
  | .u64, cs => alo cs
  | .u8, cs => pU8 cs
  | .int, cs => alr cs
  | .str, cs => alp cs
  | .elem, cs => ZU cs
  | .prod a b, cs => mU (ZT hp a (cs.take a.size)) (ZT hp b (cs.drop a.size))
  | .arr n t, cs => if cs.length = n * t.size then (List.range n).mapM fun i => ZT hp t ((cs.drop (i * t.size)).take t.size) else none
  | .list t, cs => if 0 < t.size then agR (px t hp) cs else none
def alK (hp : Hp) (b : Bool) (t : Ty) (x : SV) : Option t.T :=
  match b, x with
  | true, .agg l => ZT hp t l
  | true, _ => none
  | false, x => ZT hp t [x]
def aaN (hp : Hp) : (as : List (Bool × Ty)) → List SV → Option (ATy as)
  | [], [] => some ()
  | (b, t) :: r, x :: l => mU (alK hp b t x) (aaN hp r l)
  | _, _ => none
def inj (b : Bool) (t : Ty) (x : t.T) : SV := mg b (unpack t x)
def agY : (as : List (Bool × Ty)) → ATy as → List SV
  | [], _ => []
  | (b, t) :: r, x => inj b t x.1 :: agY r x.2
def Ctx.all (R : Ctx) (w : World) : Ctx := ⟨fun b => w.heap[b]?, ⟨fun _ => none, R.U.env⟩, fun _ => none, fun _ => none⟩
section
variable {P : Program} {R : Ctx} {w : World}
def Ty.plain : Ty → Bool
  | .list _ => false
  | .prod a b => a.plain && b.plain
  | .arr _ t => t.plain
  | _ => true
def SV.flat : SV → Bool
  | .bool _ | .u64 _ | .u8 _ | .int _ | .str _ => true
  | _ => false
theorem S4 {R R' : Ctx} : ∀ {x : SV} {v : Value}, x.flat = true → SV.rel R x v → SV.rel R' x v := by
  intro x v hf h
  cases x <;> first | (cases hf; done) | (simpa only [SV.rel] using h)
theorem Kb {R R' : Ctx} : ∀ {l : List SV} {vs : List Value}, l.all SV.flat = true → SV.bH R l vs → SV.bH R' l vs
  | [], vs, _, h => by simpa only [SV.bH] using h
  | x :: l, vs, hf, h => by
    simp only [List.all_cons, Bool.and_eq_true] at hf
    simp only [SV.bH] at h ⊢
    obtain ⟨v, r, h1, h2, h3⟩ := h
    exact ⟨v, r, h1, S4 hf.1 h2, Kb hf.2 h3⟩
theorem il : ∀ (t : Ty) (_ : t.plain = true) (x : t.T), (unpack t x).all SV.flat = true
  | .bool, _, _ => rfl
  | .u64, _, _ => rfl
  | .u8, _, _ => rfl
  | .int, _, _ => rfl
  | .str, _, _ => rfl
  | .elem, _, _ => rfl
  | .prod a b, hp, x => by
    simp only [Ty.plain, Bool.and_eq_true] at hp
    simp only [unpack, List.all_append, il a hp.1, il b hp.2, Bool.and_self]
  | .arr n t, hp, x => by
    simp only [unpack, List.all_flatMap, List.all_eq_true]
    intro i _
    simpa [List.all_eq_true] using il t hp _
structure TQ where
  as : List (Bool × Ty)
  rs : List (Bool × Ty)
  pre : ATy as → Bool
  F : ATy as → ATy rs
def TQ.aD (S : TQ) : cv := ⟨false, fun _ args hp => match aaN hp S.as args with
  | some x => .guard (S.pre x) (.ok (.ret ⟨oneOf (agY S.rs (S.F x)), []⟩))
  | none => .fail⟩
def Ctx.behind (R R₁ : Ctx) (w : World) : Ctx := { R with F := fun b => if b < w.heap.size then R.F b else R₁.F b }
end
end Sx
end Go.Proofs.YtohjofabochgfaaGreat

namespace Go.Proofs.YtohjofabochgfaaGreat
namespace Sx
open Go
def hJ (d n : Nat) : Prop := n / 4096 = d + 1
structure WA (d : Nat) (hp hp' : Hp) : Prop where
  ja : ∀ c ch, hp c = some ch → hp' c = some ch
  free : ∀ n, hJ d n → hp n = none → hp' n = none
theorem rF {c e n : Nat} {hp : Hp} (h : eo hp c e = some n) : ∃ b, dI hp c e = some b := by
  unfold eo at h
  cases hq : dI hp c e with
  | none => rw [hq] at h; cases h
  | some b => exact ⟨b, rfl⟩
theorem jX {c e n : Nat} {hp : Hp} (h : dr hp c e = some n) : ∃ b, dI hp c e = some b := by
  unfold dr at h
  cases hq : dI hp c e with
  | none => rw [hq] at h; cases h
  | some b => exact ⟨b, rfl⟩
section
variable {d : Nat} {hp hp' : Hp} (hg : WA d hp hp')
include hg
theorem cu {c e : Nat} {b : Chunk} (h : dI hp c e = some b) : dI hp' c e = some b := by
  have := hg.ja _ _ (cl h)
  simp [dI, this]
theorem nd : ∀ (n k : Nat), n + k ≤ 4000 → dl hp' d n k = dl hp d n k
  | 0, k, _ => rfl
  | n + 1, k, hk => by
    simp only [dl]
    cases h : hp ((d + 1) * 4096 + k) with
    | none =>
      have : hp' ((d + 1) * 4096 + k) = none := hg.free _ (by unfold hJ; omega) h
      rw [this]
    | some ch =>
      rw [hg.ja _ _ h]
      exact nd n (k + 1) (by omega)
theorem fW : fresh hp' d = fresh hp d := nd hg 4000 0 (by omega)
theorem H3 {c e n : Nat} (h : eo hp c e = some n) : eo hp' c e = some n := by
  unfold eo at h ⊢
  cases hq : dI hp c e with
  | none => rw [hq] at h; cases h
  | some b => rw [cu hg hq]; rw [hq] at h; exact h
theorem rE {c e n : Nat} (h : dr hp c e = some n) : dr hp' c e = some n := by
  unfold dr at h ⊢
  cases hq : dI hp c e with
  | none => rw [hq] at h; cases h
  | some b => rw [cu hg hq]; rw [hq] at h; exact h
theorem ON {t : Ty} {x : SV} {ys : List t.T} (h : OO t hp x = some ys) : OO t hp' x = some ys := by
  cases x <;> simp only [OO] at h ⊢ <;> try (first | exact h | (cases h; done))
  case own c e =>
    cases hc : hp c with
    | none => rw [hc] at h; cases h
    | some ch => rw [hg.ja _ _ hc]; rw [hc] at h; exact h
theorem K8 {t : Ty} {x : SV} {ys : List t.T} (h : px t hp x = some ys) : px t hp' x = some ys := by
  cases x <;> simp only [px] at h ⊢ <;> try (first | exact h | (cases h; done))
  case own c e =>
    cases hc : hp c with
    | none => rw [hc] at h; cases h
    | some ch => rw [hg.ja _ _ hc]; rw [hc] at h; exact h
  case part c e off len =>
    cases hc : hp c with
    | none => rw [hc] at h; cases h
    | some ch => rw [hg.ja _ _ hc]; rw [hc] at h; exact h
  case clip c e =>
    cases hc : hp c with
    | none => rw [hc] at h; cases h
    | some ch => rw [hg.ja _ _ hc]; rw [hc] at h; exact h
theorem hZ : ∀ {t : Ty} {cs : List SV} {x : t.T}, pack hp t cs = some x → pack hp' t cs = some x
  | .bool, _, _, h => h
  | .u64, _, _, h => h
  | .u8, _, _, h => h
  | .int, _, _, h => h
  | .str, _, _, h => h
  | .elem, _, _, h => h
  | .prod a b, cs, x, h => by
    obtain ⟨h1, h2⟩ := bn h
    simp only [pack, hZ h1, hZ h2, mU]
  | .arr n t, cs, x, h => by
    simp only [pack] at h ⊢
    split at h
    · rename_i hl
      rw [if_pos hl]
      exact ia (fun _ _ => hZ) h
    · cases h
  | .list t, cs, x, h => by
    obtain ⟨y, rfl, hy⟩ := kt h
    simp only [pack, agR]
    exact ON hg hy
theorem Am {n : Nat} {x : SV} {cs : List SV} (h : (loadCells hp n x).run = some cs) : (loadCells hp' n x).run = some cs := by
  unfold loadCells at h ⊢
  split at h
  · rename_i c e i off
    cases hq : dI hp c e with
    | none => rw [hq] at h; cases h
    | some b => rw [cu hg hq]; rw [hq] at h; exact h
  · exact h
  · exact h
  · cases h
theorem CW {te : TE} {T : TypeId} {x z : SV} (h : (o1 te hp T x).run = some z) : (o1 te hp' T x).run = some z := by
  unfold o1 at h ⊢
  split at h
  · split at h
    · cases h
    · split at h
      · cases h
      · rename_i hn
        rw [if_neg hn]
        split at h
        · split at h
          · rename_i hrs
            rw [if_pos (rE hg hrs)]
            split at h
            · rename_i m hm
              rw [H3 hg hm]
              exact h
            · cases h
          · cases h
        · split at h
          · rename_i hrs
            rw [if_pos (rE hg hrs)]
            exact h
          · cases h
        · exact h
        · cases h
  · cases h
theorem rB {t : Ty} {cs : List SV} : ∀ {m j i : Nat} {xs ys : List t.T}, mn t hp cs m j i xs = some ys → mn t hp' cs m j i xs = some ys
  | 0, _, _, _, _, h => h
  | m + 1, j, i, xs, ys, h => by
    simp only [mn] at h ⊢
    split at h
    · rename_i x hx
      rw [hZ hg hx]
      exact rB h
    · cases h
theorem xI {cs : List SV} {x : SV} {u : List (Nat × Ch)} (h : (storeCells hp cs x).run = some u) : (storeCells hp' cs x).run = some u := by
  unfold storeCells at h ⊢
  split at h
  · rename_i c e i off
    cases hq : dI hp c e with
    | none => rw [hq] at h; cases h
    | some b =>
      rw [cu hg hq]
      rw [hq] at h
      cases b with
      | frz t xs => cases h
      | cells vs => exact h
      | row t xs =>
        simp only at h ⊢
        split at h
        · rename_i h1
          rw [if_pos h1]
          obtain ⟨h2, h3⟩ := OT.aA h
          rw [h2]
          split at h3
          · rename_i y hy
            rw [hZ hg hy]
            exact h3
          · cases h3
        · rename_i h1
          rw [if_neg h1]
          split at h
          · rename_i h4
            rw [if_pos h4]
            obtain ⟨h2, h3⟩ := OT.aA h
            rw [h2]
            split at h3
            · rename_i ys hy
              rw [rB hg hy]
              exact h3
            · cases h3
          · cases h
  · cases h
theorem eM {c e : Nat} {b : Chunk} (h : dI hp c e = some b) : dr hp' c e = dr hp c e := by
  unfold dr
  rw [cu hg h, h]
theorem dO {c e : Nat} {b : Chunk} (h : dI hp c e = some b) : eo hp' c e = eo hp c e := by
  unfold eo
  rw [cu hg h, h]
theorem Ar {te : TE} {T : TypeId} {x z : SV} {k : Int} (h : (indexAddr te hp T x k).run = some z) : (indexAddr te hp' T x k).run = some z := by
  unfold indexAddr at h ⊢
  split at h
  · cases h
  · split at h
    · split at h
      · cases h
      · split at h
        · rename_i ei _ c ep i off
          cases hq : dI hp c ep with
          | none =>
            have : dr hp c ep = none := by unfold dr; rw [hq]
            rw [this, hq] at h
            simp at h
            cases h
          | some b =>
            rw [eM hg hq, cu hg hq]
            rw [hq] at h
            exact h
        · exact h
        · cases h
    · split at h
      · cases h
      · split at h
        · split at h
          · rename_i n hn
            obtain ⟨b, hb⟩ := rF hn
            rw [dO hg hb, hn, eM hg hb]
            exact h
          · cases h
        · split at h
          · rename_i n hn
            obtain ⟨b, hb⟩ := rF hn
            rw [dO hg hb, hn, eM hg hb]
            exact h
          · cases h
        · split at h
          · rename_i hs
            obtain ⟨b, hb⟩ := jX hs
            rw [eM hg hb, if_pos hs]
            exact h
          · cases h
        · exact h
        · cases h
    · cases h
end
end Sx
end Go.Proofs.YtohjofabochgfaaGreat

namespace Go.Proofs.YtohjofabochgfaaGreat
namespace Sx
open Go
theorem iq {hp : Hp} {c e : Nat} (h : dI hp c e = none) : eo hp c e = none := by unfold eo; rw [h]
section
variable {d : Nat} {hp hp' : Hp} (hg : WA d hp hp')
include hg
theorem rr {size c ep off len : Nat} {lo hi : Option SV} {z : SV} (h : (pK hp size c ep off len lo hi).run = some z) : (pK hp' size c ep off len lo hi).run = some z := by
  unfold pK at h ⊢
  split at h
  · rename_i hs
    obtain ⟨b, hb⟩ := jX hs
    rw [eM hg hb, if_pos hs]
    exact h
  · cases h
theorem Fk {te : TE} {T : TypeId} {x z : SV} {lo hi mx : Option SV} (h : (uf te hp T x lo hi mx).run = some z) : (uf te hp' T x lo hi mx).run = some z := by
  unfold uf at h ⊢
  split at h
  · cases h
  · split at h
    · split at h
      · rename_i ei c ep i off _
        split at h
        · rename_i hc
          obtain ⟨b, hb⟩ := jX hc.2.2
          rw [eM hg hb, if_pos hc, dO hg hb]
          exact h
        · cases h
      · cases h
    · split at h
      · cases h
      · rename_i ei _
        split at h
        · rename_i hn
          rw [if_pos hn]
          cases x <;> first | exact h | (cases h; done) | skip
          case own c ep | clip c ep | part c ep _ _ =>
            cases hq : dI hp c ep with
            | none => simp only [iq hq] at h; cases h
            | some b => simp only [dO hg hq]; exact h
        · rename_i hn
          rw [if_neg hn]
          cases mx with
          | some m => cases x <;> first | exact h | (cases h; done)
          | none =>
            cases x <;> first | exact h | (cases h; done) | skip
            case own c ep =>
              cases hq : dI hp c ep with
              | none => simp only [iq hq] at h; cases h
              | some b =>
                simp only [dO hg hq]
                simp only at h
                split at h
                · exact rr hg h
                · cases h
            case part c ep off len => exact rr hg h
    · exact h
    · cases h
theorem NJ {te : TE} {T : TypeId} {x z : SV} (h : (Vn te hp T x).run = some z) : (Vn te hp' T x).run = some z := by
  unfold Vn at h ⊢
  split at h
  · cases h
  · rename_i ti hT
    cases hd : ti.desc <;> rw [hd] at h <;> cases x <;> first | exact h | (cases h; done) | skip
    case slice.own _ c ep =>
      simp only at h ⊢
      cases hq : dI hp c ep with
      | none => simp only [iq hq] at h; cases h
      | some b => simp only [dO hg hq]; exact h
    case slice.clip _ c ep =>
      simp only at h ⊢
      cases hq : dI hp c ep with
      | none => simp only [iq hq] at h; cases h
      | some b => simp only [dO hg hq]; exact h
    case slice.part _ c ep off len =>
      simp only at h ⊢
      cases hq : dI hp c ep with
      | none => simp only [iq hq] at h; cases h
      | some b => simp only [dO hg hq]; exact h
omit hg in
theorem nc : ∀ (n k : Nat), n + k ≤ 4000 → hJ d (dl hp d n k)
  | 0, k, h => by unfold hJ; simp only [dl]; omega
  | n + 1, k, h => by
    simp only [dl]
    split
    · unfold hJ; omega
    · exact nc n (k + 1) (by omega)
omit hg in
theorem Ax (d : Nat) (hp : Hp) : hJ d (fresh hp d) := nc 4000 0 (by omega)
theorem cX (h : ¬ (hp (fresh hp d)).isSome = true) : ¬ (hp' (fresh hp d)).isSome = true := by
  rw [hg.free _ (Ax d hp) (kF h)]
  simp
theorem Ec {t : Ty} {x : SV} {ys : List t.T} : (match x with
        | .str b => bK t .u8 b
        | _ => px t hp x) = some ys → (match x with
        | .str b => bK t .u8 b
        | _ => px t hp' x) = some ys := fun h => by
  cases x <;> first | exact h | exact K8 hg h
theorem CY {te : TE} {T : TypeId} {s x : SV} {e : Eff} (h : (o3 te hp d T s x).run = some e) : (o3 te hp' d T s x).run = some e := by
  unfold o3 at h ⊢
  split at h
  · split at h
    · rename_i size bytes _ _ t hte
      split at h
      · cases h
      · rename_i hb
        rw [if_neg hb]
        split at h
        · rename_i ys hys
          have key := Ec hg hys
          split
          case h_2 hno => exact absurd (hno.symm.trans key) (by simp)
          rename_i ys' hys'
          have : ys' = ys := Option.some.inj (hys'.symm.trans key)
          subst this
          cases s <;> first | (cases h; done) | skip
          case own c ep =>
            simp only at h ⊢
            cases hq : dI hp c ep with
            | none => rw [hq] at h; cases h
            | some b => rw [cu hg hq]; rw [hq] at h; exact h
          case emp =>
            simp only at h ⊢
            split at h
            · cases h
            · rename_i hf
              rw [fW hg, if_neg (cX hg hf)]
              exact h
          case clip c ep =>
            simp only at h ⊢
            cases hq : dI hp c ep with
            | none => rw [hq] at h; cases h
            | some b =>
              rw [cu hg hq]; rw [hq] at h
              cases b <;> first | (cases h; done) | skip
              case row t' xs =>
                simp only at h ⊢
                split at h
                · split at h
                  · cases h
                  · rename_i hf
                    rw [fW hg, if_neg (cX hg hf)]
                    exact h
                · cases h
        · cases h
    · cases h
  · cases h
theorem Kx {te : TE} {T : TypeId} {x y : SV} {e : Eff} (h : (Ey te hp T x y).run = some e) : (Ey te hp' T x y).run = some e := by
  unfold Ey at h ⊢
  split at h
  · split at h
    · split at h
      · cases h
      · rename_i hb
        rw [if_neg hb]
        split at h
        · rename_i ys hys
          have key := Ec hg hys
          split
          case h_2 hno => exact absurd (hno.symm.trans key) (by simp)
          rename_i ys' hys'
          have : ys' = ys := Option.some.inj (hys'.symm.trans key)
          subst this
          cases x <;> first | (cases h; done) | skip
          case own c ep =>
            simp only at h ⊢
            cases hq : dI hp c ep with
            | none => rw [hq] at h; cases h
            | some b => rw [cu hg hq]; rw [hq] at h; exact h
          case part c ep off len =>
            simp only at h ⊢
            cases hq : dI hp c ep with
            | none => rw [hq] at h; cases h
            | some b => rw [cu hg hq]; rw [hq] at h; exact h
        · cases h
    · cases h
  · cases h
theorem wF {te : TE} {T : TypeId} {cs : List SV} {e : Eff} (h : (newVar te hp d T cs).run = some e) : (newVar te hp' d T cs).run = some e := by
  unfold newVar at h ⊢
  split at h
  · cases h
  · split at h
    · cases h
    · rename_i hl
      rw [if_neg hl]
      simp only at h ⊢
      split at h
      · cases h
      · rename_i hf
        rw [fW hg, if_neg (cX hg hf)]
        exact h
theorem xQ {te : TE} {T : TypeId} {len : Nat} {ps : List (Nat × SV)} {e : Eff} (h : (buildSlice te hp d T len ps).run = some e) : (buildSlice te hp' d T len ps).run = some e := by
  unfold buildSlice at h ⊢
  split at h
  · split at h
    · simp only at h ⊢
      split at h
      · cases h
      · rename_i hf
        rw [fW hg]
        rw [if_neg (by rintro (h1 | h1); exact cX hg (fun h2 => hf (.inl h2)) h1; exact hf (.inr h1))]
        split at h
        · split at h
          · rename_i xs hxs
            rw [ia (fun _ _ => hZ hg) hxs]
            exact h
          · cases h
        · cases h
    · cases h
  · cases h
theorem Ah {te : TE} {T : TypeId} {l c : Int} {e : Eff} (h : (makeSlice te hp d T l c).run = some e) : (makeSlice te hp' d T l c).run = some e := by
  unfold makeSlice at h ⊢
  split at h
  · split at h
    · simp only at h ⊢
      split at h
      · cases h
      · rename_i hf
        rw [fW hg]
        rw [if_neg (by rintro (h1 | h1); exact cX hg (fun h2 => hf (.inl h2)) h1; exact hf (.inr h1))]
        exact h
    · cases h
  · cases h
end
end Sx
end Go.Proofs.YtohjofabochgfaaGreat

namespace Go.Proofs.YtohjofabochgfaaGreat
namespace Sx
open Go
def aF (s : cv) : Prop := ∀ (d : Nat) (args : List SV) (hp hp' : Hp) (out : Out), WA d hp hp' → (s.f d args hp).run = some out → (s.f d args hp').run = some out
def av (Φ : Env) : Prop := ∀ f s, Φ f = some s → aF s
theorem dj {α β : Type} {f : α → β} {x y : OT α} {z : β} (hxy : ∀ a, x.run = some a → y.run = some a) (h : (x.map f).run = some z) : (y.map f).run = some z := by
  obtain ⟨a, h1, rfl⟩ := OT.run_map h
  have := hxy a h1
  clear h h1 hxy
  induction y with
  | ok b => cases this; rfl
  | br b u v hu hv =>
    cases b
    · exact hv this
    · exact hu this
  | fail => cases this
theorem xO {te : TE} {d : Nat} {hp hp' : Hp} (hg : WA d hp hp') {src dst : TypeId} {x : SV} {y : Nat × Nat × List UInt8} (h : ef te hp src dst x = some y) : ef te hp' src dst x = some y := by
  unfold ef at h ⊢
  split at h
  · rename_i hs
    rw [if_pos hs]
    split at h
    · split at h
      · split at h
        · split at h
          · rename_i h3
            rw [cu hg h3]
            exact h
          · cases h
        · cases h
      · cases h
    · cases h
  · cases h
theorem Wb {te : TE} {Φ : Env} (hΦ : av Φ) {d : Nat} {hp hp' : Hp} (hg : WA d hp hp') {ρ : Operand → SV} {op : Op} {out : Out} (h : (Ex te Φ hp d ρ op).run = some out) :
    (Ex te Φ hp' d ρ op).run = some out := by
  cases op <;> simp only [Ex] at h ⊢ <;> try (first | exact h | (cases h; done))
  case alloc T =>
    split at h
    · exact dj (fun _ => wF hg) h
    · cases h
  case box T x =>
    split at h
    · exact dj (fun _ => wF hg) h
    · cases h
  case buildSlice T len ps => exact dj (fun _ => xQ hg) h
  case load T a =>
    split at h
    · exact dj (fun _ hq => dj (fun _ => Am hg) hq) h
    · cases h
  case store T a x =>
    split at h
    · split at h
      · split at h
        · rename_i hl
          rw [if_pos hl]
          exact dj (fun _ => xI hg) h
        · cases h
      · cases h
    · cases h
  case slice T x lo hi mx => exact dj (fun _ => Fk hg) h
  case sliceToArrayPointer T x => exact dj (fun _ => CW hg) h
  case indexAddr T x k =>
    split at h
    · exact dj (fun _ => Ar hg) h
    · cases h
  case convert src dst x =>
    split at h
    · exact h
    · split at h
      · rename_i hs
        rw [xO hg hs]
        exact h
      · rename_i hs
        split
        · rename_i c e s hs'
          obtain ⟨_, _, hx, _, _⟩ := nG hs'
          rw [hx] at h
          unfold yn at h
          split at h <;> first | (cases h; done) | (split at h <;> first | (cases h; done) | skip)
          all_goals (rename_i he; simp_all)
        · exact h
  case makeSlice T l c =>
    split at h
    · exact dj (fun _ => Ah hg) h
    · cases h
  case call c =>
    cases hc : c.callee <;> simp only [hc] at h ⊢ <;> try (cases h; done)
    case value f =>
      unfold abS at h ⊢
      split at h
      · split at h
        · rename_i s hs
          exact hΦ _ _ hs _ _ _ _ _ hg h
        · cases h
      · cases h
    case invoke recv name =>
      unfold G6 at h ⊢
      split at h
      · split at h
        · split at h
          · rename_i s hs
            exact hΦ _ _ hs _ _ _ _ _ hg h
          · cases h
        · cases h
      · cases h
    case builtin b =>
      cases b <;> simp only at h ⊢ <;> try (cases h; done)
      case len =>
        split at h
        · exact dj (fun _ => NJ hg) h
        · cases h
      case append =>
        split at h
        · split at h
          · rename_i hl
            rw [if_pos hl]
            exact dj (fun _ => CY hg) h
          · cases h
        · cases h
      case copy =>
        split at h
        · exact dj (fun _ => Kx hg) h
        · cases h
      case max => exact h
def Ho (d : Nat) (hp hp' : Hp) : Prop := ∀ n, hJ d n → (hp n = none ↔ hp' n = none)
theorem wL {d : Nat} {hp hp' : Hp} (hf : Ho d hp hp') : ∀ (n k : Nat), n + k ≤ 4000 → dl hp' d n k = dl hp d n k
  | 0, k, _ => rfl
  | n + 1, k, hk => by
    simp only [dl]
    have hb : hJ d ((d + 1) * 4096 + k) := by unfold hJ; omega
    cases h : hp ((d + 1) * 4096 + k) with
    | none => rw [(hf _ hb).1 h]
    | some ch =>
      cases h' : hp' ((d + 1) * 4096 + k) with
      | none => rw [(hf _ hb).2 h'] at h; cases h
      | some ch' => exact wL hf n (k + 1) (by omega)
theorem SQ {d : Nat} {hp hp' : Hp} (hf : Ho d hp hp') : fresh hp' d = fresh hp d := wL hf 4000 0 (by omega)
theorem JO {d : Nat} {hp hp' : Hp} (hf : Ho d hp hp') : (hp' (fresh hp d)).isSome = (hp (fresh hp d)).isSome := by
  have := hf _ (Ax d hp)
  cases h : hp (fresh hp d) with
  | none => rw [this.1 h]
  | some ch =>
    cases h' : hp' (fresh hp d) with
    | none => rw [this.2 h'] at h; cases h
    | some ch' => rfl
theorem abz {te : TE} {Φ : Env} {d : Nat} {hp hp' : Hp} (hf : Ho d hp hp') {ρ : Operand → SV} {op : Op} (hk : dp Φ op = 0) :
    Ex te Φ hp' d ρ op = Ex te Φ hp d ρ op := by
  cases op <;> simp only [Ex] <;> (first | (exfalso; simp [dp] at hk; done) | skip)
  case convert src dst x =>
    have hne : ¬ Nat.beq src dst = true := fun e => by simp [dp, e] at hk
    have : ∀ hp, ef te hp src dst (ρ x) = none := fun hp => by unfold ef; rw [if_neg hne]
    rw [this, this]
  case alloc T =>
    split
    · congr 1
      unfold newVar
      rw [SQ hf]
      simp only [JO hf]
    · rfl
  case makeSlice T l c =>
    split
    · congr 1
      unfold makeSlice
      rw [SQ hf]
      simp only [JO hf]
    · rfl
  case call c =>
    cases hc : c.callee <;> (try simp only)
    case value f =>
      exfalso
      simp only [dp, hc] at hk
      cases f <;> simp only at hk <;> first | (cases hk; done) | skip
      split at hk
      · split at hk <;> cases hk
      · cases hk
    case invoke recv name =>
      exfalso
      simp only [dp, hc] at hk
      cases hk
    case builtin b =>
      cases b <;> (try simp only) <;> (simp only [dp, hc] at hk; try (cases hk; done))
theorem Wc {te : TE} {Φ : Env} {d : Nat} {hp : Hp} {ρ ρ' : Operand → SV} {op : Op} (h : ∀ x ∈ op.operands, ρ x = ρ' x) : Ex te Φ hp d ρ op = Ex te Φ hp d ρ' op := by
  have pairs : ∀ ps : Array (Nat × Operand), (∀ x ∈ (ps.toList.map (·.2)).toArray, ρ x = ρ' x) → (ps.toList.map fun p => (p.1, ρ p.2)) = (ps.toList.map fun p => (p.1, ρ' p.2)) := fun ps hp =>
    List.map_congr_left fun p hm => by
      rw [hp p.2 (by simpa using ⟨p.1, by simpa using hm⟩)]
  cases op <;> simp only [Op.operands] at h <;> simp only [Ex]
  case build t ps => rw [pairs ps h]
  case buildSlice t n ps => rw [pairs ps h]
  case makeFunc f first caps =>
    rw [List.map_congr_left (l := first.toList) fun x hx => h x (by simp at hx; simp [hx]), List.map_congr_left (l := caps.toList) fun x hx => h x (by simp at hx; simp [hx])]
  case call c =>
    have hargs : c.args.toList.map ρ = c.args.toList.map ρ' := List.map_congr_left fun x hx => h x (by simp at hx; simp [Call.operands, hx])
    have harr : ∀ x ∈ c.args.toList, ρ x = ρ' x := fun x hx => h x (by simp at hx; simp [Call.operands, hx])
    cases hc : c.callee <;> (try simp only)
    case value f =>
      have hf : ρ f = ρ' f := h f (by simp [Call.operands, hc])
      rw [hargs, hf]
    case invoke recv name =>
      have hf : ρ recv = ρ' recv := h recv (by simp [Call.operands, hc])
      rw [hargs, hf]
    case builtin b =>
      cases b <;> (try simp only)
      all_goals (
        rcases ha : c.args.toList with _ | ⟨x, _ | ⟨y, _ | ⟨z, r⟩⟩⟩ <;> rcases hT : c.argTypes.toList with _ | ⟨T, _ | ⟨T', _ | ⟨T'', r'⟩⟩⟩ <;>
          first
          | rfl
          | (have hx := harr x (by rw [ha]; simp); simp only [hx]; done)
          | (have hx := harr x (by rw [ha]; simp); have hy := harr y (by rw [ha]; simp); simp only [hx, hy]; done))
  case slice t x lo hi mx => cases lo <;> cases hi <;> cases mx <;> simp_all
  all_goals (first | rfl | (simp_all; done))
end Sx
end Go.Proofs.YtohjofabochgfaaGreat

namespace Go.Proofs.YtohjofabochgfaaGreat
namespace Sx
open Go
def bc (u : List (Nat × Ch)) : List Nat := u.map (·.1)
theorem pZ {m : Nat} : ∀ (u : List (Nat × Ch)) {hp hp' : Hp}, hp m = hp' m → eK hp u m = eK hp' u m
  | [], _, _, h => h
  | (c, ch) :: r, hp, hp', h => pZ r (by show (if m = c then some ch else hp m) = (if m = c then some ch else hp' m); rw [h])
theorem cS {m : Nat} : ∀ (u : List (Nat × Ch)) {hp : Hp}, m ∉ bc u → eK hp u m = hp m
  | [], _, _ => rfl
  | (c, ch) :: r, hp, h => by
    have h1 : m ≠ c := fun e => h (by simp [bc, e])
    have h2 : m ∉ bc r := fun e => h (by simp only [bc, List.map_cons, List.mem_cons]; exact .inr e)
    simp only [eK]
    rw [cS r h2]
    simp [h1]
theorem R3 {m : Nat} : ∀ (u : List (Nat × Ch)) {hp hp' : Hp}, m ∈ bc u → eK hp u m = eK hp' u m
  | [], _, _, h => by simp [bc] at h
  | (c, ch) :: r, hp, hp', h => by
    by_cases h2 : m ∈ bc r
    · exact R3 r h2
    · have h1 : m = c := by
        simp only [bc, List.map_cons, List.mem_cons] at h
        exact h.resolve_right h2
      simp only [eK]
      rw [cS r h2, cS r h2]
      simp [h1]
theorem DD {m : Nat} : ∀ (u : List (Nat × Ch)) {hp : Hp}, hp m ≠ none → eK hp u m ≠ none
  | [], _, h => h
  | (c, ch) :: r, hp, h => DD r (by
    show (if m = c then some ch else hp m) ≠ none
    split
    · simp
    · exact h)
theorem afc {s : St} {d d' : Option Tmp} {e e' : Eff} (hd : ∀ t, d = some t → d' ≠ some t) (hn : ∀ m, m ∈ bc e.upd → m ∉ bc e'.upd) : (s.put d e).put d' e' = (s.put d' e').put d e := by
  unfold St.put
  congr 1
  · cases d with
    | none => rfl
    | some t =>
      cases d' with
      | none => rfl
      | some t' =>
        simp only [xK]
        exact List.set_comm _ _ (fun h => hd t rfl (by rw [h]))
  · funext m
    simp only
    by_cases h' : m ∈ bc e'.upd
    · have h : m ∉ bc e.upd := fun h => hn m h h'
      rw [R3 e'.upd (hp' := s.hp) h', cS e.upd h]
    · rw [cS e'.upd h']
      exact pZ _ (cS e'.upd h').symm
theorem oQ (st : St) (D : Nat → Bool) : ∀ (F : jr), (ba st D F).tm.length = st.tm.length
  | [] => rfl
  | x :: r => by
    simp only [ba]
    cases D x.1
    · exact oQ st D r
    · simp only [cond_true, St.put]
      unfold xK
      split <;> simp [oQ st D r]
theorem jN {st : St} {D D' : Nat → Bool} : ∀ {F : jr}, (∀ x ∈ F, D x.1 = D' x.1) → ba st D F = ba st D' F
  | [], _ => rfl
  | x :: r, h => by
    simp only [ba]
    rw [h x (by simp), jN (F := r) fun y hy => h y (by simp [hy])]
theorem AG {st : St} {D D' : Nat → Bool} {m : Nat} : ∀ {F : jr}, (∀ x ∈ F, D' x.1 = true → D x.1 = true) → (∀ x ∈ F, D x.1 = true → D' x.1 = false → m ∉ bc x.2.2.upd) →
    (ba st D F).hp m = (ba st D' F).hp m
  | [], _, _ => rfl
  | x :: r, h1, h2 => by
    have ih := AG (st := st) (D := D) (D' := D') (m := m) (F := r) (fun y hy => h1 y (by simp [hy])) (fun y hy => h2 y (by simp [hy]))
    simp only [ba]
    cases hd' : D' x.1
    · cases hd : D x.1
      · exact ih
      · simp only [cond_true, cond_false, St.put]
        rw [cS _ (h2 x (by simp) hd hd')]
        exact ih
    · rw [h1 x (by simp) hd']
      simp only [cond_true, St.put]
      exact pZ _ ih
theorem zp {st : St} {dst : Option Tmp} {v : SV} {t : Nat} (h : dst ≠ some t) : (xK st dst v).getD t .bt = st.tm.getD t .bt := by
  cases dst with
  | none => rfl
  | some d =>
    have : d ≠ t := fun e => h (by rw [e])
    simp [xK, List.getD_eq_getElem?_getD, List.getElem?_set_ne this]
theorem UJ {st st' : St} {dst : Option Tmp} {v : SV} {t : Nat} (hl : st.tm.length = st'.tm.length) (h : st.tm.getD t .bt = st'.tm.getD t .bt) : (xK st dst v).getD t .bt = (xK st' dst v).getD t .bt := by
  cases dst with
  | none => exact h
  | some d =>
    by_cases e : d = t
    · subst e
      simp only [xK, List.getD_eq_getElem?_getD, List.getElem?_set, if_true, hl]
    · rw [zp (by simpa using e), zp (by simpa using e)]
      exact h
theorem J7 {st : St} {D D' : Nat → Bool} {t : Nat} : ∀ {F : jr}, (∀ x ∈ F, D' x.1 = true → D x.1 = true) → (∀ x ∈ F, D x.1 = true → D' x.1 = false → x.2.1.dst ≠ some t) →
    (ba st D F).tm.getD t .bt = (ba st D' F).tm.getD t .bt
  | [], _, _ => rfl
  | x :: r, h1, h2 => by
    have ih := J7 (st := st) (D := D) (D' := D') (t := t) (F := r) (fun y hy => h1 y (by simp [hy])) (fun y hy => h2 y (by simp [hy]))
    simp only [ba]
    cases hd' : D' x.1
    · cases hd : D x.1
      · exact ih
      · simp only [cond_true, cond_false, St.put]
        rw [zp (h2 x (by simp) hd hd')]
        exact ih
    · rw [h1 x (by simp) hd']
      simp only [cond_true, St.put]
      exact UJ (by rw [oQ, oQ]) ih
theorem sJ {st : St} {D : Nat → Bool} {i : Nat} {o : Oper} {e : Eff} : ∀ {F : jr}, (i, o, e) ∈ F → (∀ x ∈ F, x.1 = i → x = (i, o, e)) → F.Pairwise (fun x y => y.1 < x.1) → D i = false →
    (∀ x ∈ F, D x.1 = true → i < x.1 → (∀ t, o.dst = some t → x.2.1.dst ≠ some t) ∧ ∀ m, m ∈ bc e.upd → m ∉ bc x.2.2.upd) →
    ba st (fun k => D k || Nat.beq k i) F = (ba st D F).put o.dst e
  | [], hm, _, _, _, _ => by cases hm
  | x :: r, hm, hu, hp, hD, hc => by
    have hp' := List.pairwise_cons.1 hp
    simp only [ba]
    by_cases hx : x.1 = i
    · have := hu x (by simp) hx
      subst this
      simp only [hD, Bool.false_or, Nat.beq_refl, cond_true, cond_false]
      congr 1
      exact jN fun y hy => by
        have : y.1 ≠ i := Nat.ne_of_lt (hp'.1 y hy)
        simp [this]
    · have hmr : (i, o, e) ∈ r := by
        rcases List.mem_cons.1 hm with h | h
        · exact absurd (by rw [← h]) hx
        · exact h
      have hlt : i < x.1 := hp'.1 _ hmr
      have ih := sJ (st := st) (F := r) hmr (fun y hy => hu y (by simp [hy])) hp'.2 hD (fun y hy => hc y (by simp [hy]))
      have hb : Nat.beq x.1 i = false := by
        cases hq : Nat.beq x.1 i
        · rfl
        · exact absurd (Nat.eq_of_beq_eq_true hq) hx
      simp only [hb, Bool.or_false]
      cases hd : D x.1
      · exact ih
      · simp only [cond_true]
        obtain ⟨c1, c2⟩ := hc x (by simp) hd hlt
        rw [ih, afc c1 c2]
end Sx
end Go.Proofs.YtohjofabochgfaaGreat

namespace Go.Proofs.YtohjofabochgfaaGreat
namespace Sx
open Go
section
variable {te : TE} {Φ : Env} {ops : Array Oper} {bs : Array Nat} {H : Hid} {st : St}
structure ahi (te : TE) (Φ : Env) (ops : Array Oper) (bs : Array Nat) (H : Hid) (st : St) (r : jr) (i : Nat) (o : Oper) (e : Eff) : Prop where
  run : ∃ b, guarded ops.toList (ba st (ct bs i) r).tm o = some b ∧
    (b = true → (Ex te Φ (agZ (hid H i) (ba st (ct bs i) r).hp) (du i o) (ba st (ct bs i) r).eval o.op).run = some (.ret e) ∧ JX H i o e.upd = true) ∧ (b = false → e = ⟨.undef, []⟩)
  upd : LN Φ bs ops.toList st i o r e.upd = true
def Good (te : TE) (Φ : Env) (ops : Array Oper) (bs : Array Nat) (H : Hid) (st : St) : jr → Prop
  | [] => True
  | x :: r => x.1 = r.length ∧ ops[r.length]? = some x.2.1 ∧ ahi te Φ ops bs H st r x.1 x.2.1 x.2.2 ∧ Good te Φ ops bs H st r
theorem yE {K : SE → St → Prop} : ∀ (l : List Oper) (done : jr), Good te Φ ops bs H st done → (∀ k, l[k]? = ops[done.length + k]?) → dW te Φ ops.toList bs H K st done.length l done →
    ∃ F, Good te Φ ops bs H st F ∧ F.length = done.length + l.length ∧ K .normal (ba st (fun _ => true) F)
  | [], done, hg, _, h => ⟨done, hg, rfl, h⟩
  | o :: r, done, hg, hl, h => by
    have ho : ops[done.length]? = some o := by have := hl 0; simpa using this.symm
    have hl' : ∀ k, r[k]? = ops[done.length + 1 + k]? := fun k => by
      have := hl (k + 1)
      rw [List.getElem?_cons_succ] at this
      rw [this]
      congr 1
      omega
    simp only [dW] at h
    split at h
    · exact h.elim
    · rename_i b hb
      cases b
      · simp only [cond_false] at h
        obtain ⟨F, h1, h2, h3⟩ := yE r ((done.length, o, ⟨.undef, []⟩) :: done) ⟨rfl, ho, ⟨⟨_, hb, (fun h => by cases h), fun _ => rfl⟩, rfl⟩, hg⟩ hl' h
        exact ⟨F, h1, by rw [h2]; simp only [List.length_cons]; omega, h3⟩
      · simp only [cond_true] at h
        obtain ⟨out, h1, h2⟩ := OT.Pm h
        cases out with
        | pan v u => exact h2.elim
        | ret e =>
          simp only at h2
          cases hu : LN Φ bs ops.toList st done.length o done e.upd
          · rw [hu] at h2; exact h2.elim
          · cases hv : JX H done.length o e.upd
            · rw [hu, hv] at h2; exact h2.elim
            rw [hu, hv] at h2
            obtain ⟨F, h4, h5, h6⟩ := yE r ((done.length, o, e) :: done) ⟨rfl, ho, ⟨⟨_, hb, (fun _ => ⟨h1, hv⟩), fun h => by cases h⟩, hu⟩, hg⟩ hl' h2
            exact ⟨F, h4, by rw [h5]; simp only [List.length_cons]; omega, h6⟩
theorem Good.mem : ∀ {F : jr}, Good te Φ ops bs H st F → ∀ x ∈ F, x.1 < F.length ∧ ops[x.1]? = some x.2.1
  | [], _, x, hx => by cases hx
  | y :: r, hg, x, hx => by
    rcases List.mem_cons.1 hx with h | h
    · subst h
      exact ⟨by rw [hg.1]; simp, by rw [hg.1]; exact hg.2.1⟩
    · obtain ⟨h1, h2⟩ := Good.mem hg.2.2.2 x h
      exact ⟨by simp only [List.length_cons]; omega, h2⟩
theorem Good.pairwise : ∀ {F : jr}, Good te Φ ops bs H st F → F.Pairwise (fun x y => y.1 < x.1)
  | [], _ => List.Pairwise.nil
  | y :: r, hg => List.pairwise_cons.2 ⟨fun x hx => by rw [hg.1]; exact (Good.mem hg.2.2.2 x hx).1, Good.pairwise hg.2.2.2⟩
theorem Good.amF : ∀ {F : jr}, Good te Φ ops bs H st F → ∀ x ∈ F, ∀ y ∈ F, x.1 = y.1 → x = y
  | [], _, x, hx, _, _, _ => by cases hx
  | z :: r, hg, x, hx, y, hy, he => by
    rcases List.mem_cons.1 hx with h | h <;> rcases List.mem_cons.1 hy with h' | h'
    · rw [h, h']
    · have := (Good.mem hg.2.2.2 y h').1
      rw [h, hg.1] at he
      omega
    · have := (Good.mem hg.2.2.2 x h).1
      rw [h', hg.1] at he
      omega
    · exact Good.amF hg.2.2.2 x h y h' he
theorem Good.at : ∀ {F : jr}, Good te Φ ops bs H st F → ∀ i, i < F.length → ∃ o e r, (i, o, e) ∈ F ∧ (∀ y ∈ r, y ∈ F) ∧ r.length = i ∧ (∀ D : Nat → Bool, (∀ k, i ≤ k → D k = false) → ba st D F = ba st D r) ∧ Good te Φ ops bs H st r ∧ ahi te Φ ops bs H st r i o e
  | [], _, i, h => by simp at h
  | y :: r, hg, i, h => by
    by_cases hi : i = r.length
    · subst hi
      have h1 : y.1 = r.length := hg.1
      refine ⟨y.2.1, y.2.2, r, ?_, fun z hz => by simp [hz], rfl, fun D hD => ?_, hg.2.2.2, ?_⟩
      · rw [← h1]; simp
      · simp only [ba]
        rw [hD y.1 (by rw [h1]; omega)]
        rfl
      · have := hg.2.2.1
        rw [h1] at this
        exact this
    · have hlt : i < r.length := by simp only [List.length_cons] at h; omega
      obtain ⟨o, e, r', h1, h2, h3, h4, h5, h6⟩ := Good.at hg.2.2.2 i hlt
      refine ⟨o, e, r', by simp [h1], fun z hz => by simp [h2 z hz], h3, fun D hD => ?_, h5, h6⟩
      simp only [ba]
      rw [hD y.1 (by rw [hg.1]; omega)]
      exact h4 D hD
theorem SG {d n : Nat} (h : JU d n = true) : hJ d n := Nat.eq_of_beq_eq_true h
theorem Good.names : ∀ {F : jr}, Good te Φ ops bs H st F → ∀ x ∈ F, ∀ m ∈ bc x.2.2.upd, (hJ (du x.1 x.2.1) m ∧ st.hp m = none) ∨
    (dp Φ x.2.1.op = 2 ∧ (st.hp m ≠ none ∨ ∃ y ∈ F, ct bs x.1 y.1 = true ∧ hJ (du y.1 y.2.1) m ∧ y.2.2.upd ≠ []))
  | [], _, x, hx, _, _ => by cases hx
  | z :: r, hg, x, hx, m, hm => by
    rcases List.mem_cons.1 hx with h | h
    · subst h
      obtain ⟨c, hc, rfl⟩ := List.mem_map.1 hm
      have hu := hg.2.2.1.upd
      unfold LN at hu
      have hne : x.2.2.upd.isEmpty = false := by
        cases hq : x.2.2.upd with
        | nil => rw [hq] at hc; cases hc
        | cons => rfl
      rw [hne, Bool.false_or, Bool.and_eq_true, List.all_eq_true, List.all_eq_true] at hu
      have h1 := hu.2 c hc
      simp only [Bool.or_eq_true, Bool.and_eq_true, Option.isNone_iff_eq_none, List.any_eq_true, Bool.not_eq_true'] at h1
      rcases h1 with ⟨h1, h2⟩ | ⟨h1, h2⟩
      · exact .inl ⟨SG h1, h2⟩
      · refine .inr ⟨Nat.eq_of_beq_eq_true h1, ?_⟩
        rcases h2 with h2 | ⟨y, hy, ⟨h3, h4⟩, h5⟩
        · exact .inl fun hq => by rw [hq] at h2; cases h2
        · exact .inr ⟨y, by simp [hy], h3, SG h4, fun hq => by rw [hq] at h5; cases h5⟩
    · rcases Good.names hg.2.2.2 x h m hm with h1 | ⟨h1, h2 | ⟨y, hy, h3⟩⟩
      · exact .inl h1
      · exact .inr ⟨h1, .inl h2⟩
      · exact .inr ⟨h1, .inr ⟨y, by simp [hy], h3⟩⟩
theorem gx {o : Oper} {i : Nat} (h : ops[i]? = some o) : ops.getD i default = o := by
  rw [Array.getD_eq_getD_getElem?, h]; rfl
theorem xL {o : Oper} {i : Nat} (h : ops[i]? = some o) : ops.toList.getD i default = o := by
  rw [List.getD_eq_getElem?_getD, Array.getElem?_toList, h]; rfl
theorem Good.own : ∀ {F : jr}, Good te Φ ops bs H st F → ∀ x ∈ F, x.2.2.upd ≠ [] → ∀ (k : Nat) (o : Oper), ops[k]? = some o → k ≠ x.1 → du k o ≠ du x.1 x.2.1
  | [], _, x, hx, _, _, _, _, _ => by cases hx
  | z :: r, hg, x, hx, hne, k, o, hk, hkx => by
    rcases List.mem_cons.1 hx with h | h
    · subst h
      have hu := hg.2.2.1.upd
      unfold LN at hu
      have hne : x.2.2.upd.isEmpty = false := by
        cases hq : x.2.2.upd with
        | nil => exact absurd hq hne
        | cons => rfl
      rw [hne, Bool.false_or, Bool.and_eq_true, List.all_eq_true, List.all_eq_true] at hu
      have hlt : k < ops.size := by
        rcases Nat.lt_or_ge k ops.size with h' | h'
        · exact h'
        · rw [Array.getElem?_eq_none h'] at hk; cases hk
      have h1 := hu.1 k (by simpa using hlt)
      rw [xL hk] at h1
      simp only [Bool.or_eq_true, Bool.not_eq_true'] at h1
      rcases h1 with h1 | h1
      · exact absurd (Nat.eq_of_beq_eq_true h1) hkx
      · intro he
        rw [he, Nat.beq_refl] at h1
        cases h1
    · exact Good.own hg.2.2.2 x h hne k o hk hkx
def LF (bs : Array Nat) (n : Nat) (D : Nat → Bool) : Prop := ∀ k, k < n → D k = true → ∀ l, ct bs k l = true → D l = true
theorem Good.origin {F : jr} (hF : Good te Φ ops bs H st F) {D : Nat → Bool} (hD : LF bs F.length D) {m : Nat} (hm : st.hp m = none) : ∀ (L : jr), (∀ x ∈ L, x ∈ F) → (ba st D L).hp m ≠ none →
    ∃ y ∈ F, D y.1 = true ∧ hJ (du y.1 y.2.1) m ∧ y.2.2.upd ≠ []
  | [], _, h => absurd hm h
  | x :: r, hL, h => by
    have ih := Good.origin hF hD hm r (fun y hy => hL y (by simp [hy]))
    simp only [ba] at h
    cases hd : D x.1
    · rw [hd] at h; exact ih h
    · rw [hd] at h
      simp only [cond_true, St.put] at h
      by_cases hn : m ∈ bc x.2.2.upd
      · have hx := hL x (by simp)
        rcases hF.names x hx m hn with ⟨h1, _⟩ | ⟨_, h1 | ⟨y, hy, h2, h3, h4⟩⟩
        · exact ⟨x, hx, hd, h1, fun hq => by rw [hq] at hn; simp [bc] at hn⟩
        · exact absurd hm h1
        · exact ⟨y, hy, hD x.1 (hF.mem x hx).1 hd _ h2, h3, h4⟩
      · rw [cS _ hn] at h
        exact ih h
theorem qy {D : Nat → Bool} {m : Nat} (hm : st.hp m ≠ none) : ∀ (L : jr), (ba st D L).hp m ≠ none
  | [] => hm
  | x :: r => by
    have ih := qy (D := D) hm r
    simp only [ba]
    cases D x.1
    · exact ih
    · exact DD _ ih
end
end Sx
end Go.Proofs.YtohjofabochgfaaGreat

namespace Go.Proofs.YtohjofabochgfaaGreat
namespace Sx
open Go
theorem da {a b : Nat} (h : Nat.blt a b = true) : a < b := Nat.le_of_ble_eq_true h
theorem KQ {a b : Nat} (h : a < b) : Nat.blt a b = true := Nat.ble_eq_true_of_le h
section
variable {te : TE} {Φ : Env} {ops : Array Oper} {bs : Array Nat} {H : Hid} {st : St}
structure Fa (Φ : Env) (ops : Array Oper) (i j : Nat) (x y : Oper) : Prop where
  xy : ∀ d, x.dst = some d → d ∉ y.looksAt ops
  dd : ∀ d, x.dst = some d → y.dst ≠ some d
  yx : ∀ d, y.dst = some d → d ∉ x.looksAt ops
  slot : du i x ≠ du j y
theorem Fa.symm {i j : Nat} {x y : Oper} (h : Fa Φ ops i j x y) : Fa Φ ops j i y x :=
  ⟨h.yx, fun d hd he => h.dd d he hd, h.xy, fun e => h.slot e.symm⟩
theorem ajp {a b : Nat} (h : Nat.beq a b = false) : a ≠ b := fun e => by
  subst e
  rw [Nat.beq_refl] at h
  cases h
theorem KW (hok : ec Φ ops bs = true) {i j : Nat} {x y : Oper} (hx : ops[i]? = some x) (hy : ops[j]? = some y) (hij : i < j) (h : ct bs j i = false) : Fa Φ ops i j x y := by
  have hj : j < ops.size := by
    rcases Nat.lt_or_ge j ops.size with h' | h'
    · exact h'
    · rw [Array.getElem?_eq_none h'] at hy; cases hy
  unfold ec at hok
  rw [List.all_eq_true] at hok
  have h1 := hok j (by simpa using hj)
  rw [Bool.and_eq_true, List.all_eq_true] at h1
  have h2 := h1.2 i (by simpa using hij)
  unfold agP at h2
  simp only [gx hx, gx hy, h, Bool.false_or, Bool.and_eq_true, Bool.not_eq_true'] at h2
  obtain ⟨h3, h4⟩ := h2
  obtain ⟨a1, a2, a3⟩ := Oper.apart_spec h3
  exact ⟨a1, a2, a3, ajp h4⟩
theorem Tt {i j : Nat} {x y : Oper} (hx : ops[i]? = some x) (hy : ops[j]? = some y) (hij : i < j) (h : ct bs j i = false) (hk : (dp Φ x.op = 2 ∧ dp Φ y.op ≠ 0) ∨ (dp Φ y.op = 2 ∧ dp Φ x.op ≠ 0)) : (i, j) ∈ nD Φ ops bs := by
  have hj : j < ops.size := by
    rcases Nat.lt_or_ge j ops.size with h' | h'
    · exact h'
    · rw [Array.getElem?_eq_none h'] at hy; cases hy
  unfold nD
  refine List.mem_flatMap.2 ⟨j, by simpa using hj, List.mem_flatMap.2 ⟨i, by simpa using hij, ?_⟩⟩
  have : abI Φ ops bs i j = true := by
    unfold abI
    simp only [gx hx, gx hy, h, Bool.not_false, Bool.true_and, Bool.or_eq_true, Bool.and_eq_true, Bool.not_eq_true']
    have nb : ∀ {n : Nat}, n ≠ 0 → Nat.beq n 0 = false := fun {n} h => by
      cases hq : Nat.beq n 0
      · rfl
      · exact absurd (Nat.eq_of_beq_eq_true hq) h
    exact hk.imp (fun ⟨a, b⟩ => ⟨by rw [a]; rfl, nb b⟩) fun ⟨a, b⟩ => ⟨by rw [a]; rfl, nb b⟩
  rw [this]
  exact List.mem_singleton.2 rfl
theorem ag0 (hH : H.1 = nD Φ ops bs) {i j : Nat} {x y : Oper} (hx : ops[i]? = some x) (hy : ops[j]? = some y) (hij : i ≠ j) (h : ct bs j i = false) (h' : ct bs i j = false) (hk : (dp Φ x.op = 2 ∧ dp Φ y.op ≠ 0) ∨ (dp Φ y.op = 2 ∧ dp Φ x.op ≠ 0)) :
    oN H i = true ∧ oN H j = true ∧ (∀ n ∈ H.2.getD j [], n ∈ hid H i) ∧ (∀ n ∈ H.2.getD i [], n ∈ hid H j) := by
  have nb : ∀ {a b : Nat}, a ≠ b → Nat.beq a b = false := fun {a b} h => by
    cases hq : Nat.beq a b
    · rfl
    · exact absurd (Nat.eq_of_beq_eq_true hq) h
  unfold oN hid
  rw [hH]
  rcases Nat.lt_or_gt_of_ne hij with hlt | hlt
  · have hm := Tt hx hy hlt h hk
    refine ⟨List.any_eq_true.2 ⟨_, hm, by simp⟩, List.any_eq_true.2 ⟨_, hm, by simp⟩, fun n hn => List.mem_flatMap.2 ⟨_, hm, ?_⟩, fun n hn => List.mem_flatMap.2 ⟨_, hm, ?_⟩⟩
    · simp only [Nat.beq_refl, cond_true]
      exact hn
    · simp only [nb hij, Nat.beq_refl, cond_true, cond_false]
      exact hn
  · have hm := Tt hy hx hlt h' hk.symm
    refine ⟨List.any_eq_true.2 ⟨_, hm, by simp⟩, List.any_eq_true.2 ⟨_, hm, by simp⟩, fun n hn => List.mem_flatMap.2 ⟨_, hm, ?_⟩, fun n hn => List.mem_flatMap.2 ⟨_, hm, ?_⟩⟩
    · simp only [nb (Ne.symm hij), Nat.beq_refl, cond_true, cond_false]
      exact hn
    · simp only [Nat.beq_refl, cond_true]
      exact hn
theorem aaC {R : List Nat} {hp : Hp} {n : Nat} {ch : Ch} (h : agZ R hp n = some ch) : n ∉ R ∧ hp n = some ch := by
  cases R with
  | nil => exact ⟨by simp, h⟩
  | cons a r =>
    have h : cond ((a :: r).any fun m => Nat.beq m n) none (hp n) = some ch := h
    cases hq : (a :: r).any fun m => Nat.beq m n
    · rw [hq] at h
      refine ⟨fun hm => ?_, h⟩
      have := List.any_eq_false.1 hq n hm
      rw [Nat.beq_refl] at this
      exact this rfl
    · rw [hq] at h
      cases h
theorem SJ {R : List Nat} {hp : Hp} {n : Nat} (h : n ∉ R) : agZ R hp n = hp n := by
  cases R with
  | nil => rfl
  | cons a r =>
    show cond ((a :: r).any fun m => Nat.beq m n) none (hp n) = hp n
    have : ((a :: r).any fun m => Nat.beq m n) = false := List.any_eq_false.2 fun m hm hq => h (by rw [← Nat.eq_of_beq_eq_true hq]; exact hm)
    rw [this]
    rfl
theorem aaD {i n : Nat} (h : n ∈ hid H i) : oN H i = true := by
  unfold hid at h
  obtain ⟨p, hp, h⟩ := List.mem_flatMap.1 h
  refine List.any_eq_true.2 ⟨p, hp, ?_⟩
  cases h1 : Nat.beq p.1 i
  · cases h2 : Nat.beq p.2 i
    · rw [h1, h2] at h; cases h
    · rfl
  · rfl
theorem lF {i : Nat} {o : Oper} {u : List (Nat × Ch)} (h : JX H i o u = true) (hc : oN H i = true) :
    (∀ m ∈ bc u, m ∈ H.2.getD i [] ∧ m ∉ hid H i) ∧ ∀ n ∈ hid H i, ¬ hJ (du i o) n := by
  unfold JX at h
  rw [hc, Bool.not_true, Bool.false_or, Bool.and_eq_true, List.all_eq_true, List.all_eq_true] at h
  refine ⟨fun m hm => ?_, fun n hn hb => ?_⟩
  · obtain ⟨c, hc, rfl⟩ := List.mem_map.1 hm
    have h1 := h.1 c hc
    rw [Bool.and_eq_true, List.any_eq_true, Bool.not_eq_true'] at h1
    obtain ⟨⟨k, hk, he⟩, h2⟩ := h1
    refine ⟨by rw [← Nat.eq_of_beq_eq_true he]; exact hk, fun hm => ?_⟩
    have := List.any_eq_false.1 h2 c.1 hm
    rw [Nat.beq_refl] at this
    exact this rfl
  · have h1 := h.2 n hn
    rw [Bool.not_eq_true'] at h1
    unfold hJ at hb
    unfold JU at h1
    rw [hb, Nat.beq_refl] at h1
    cases h1
theorem Good.hid : ∀ {F : jr}, Good te Φ ops bs H st F → ∀ x ∈ F, x.2.2.upd ≠ [] → JX H x.1 x.2.1 x.2.2.upd = true
  | [], _, x, hx, _ => by cases hx
  | z :: r, hg, x, hx, hne => by
    rcases List.mem_cons.1 hx with h | h
    · subst h
      obtain ⟨b, h1, h2, h3⟩ := hg.2.2.1.run
      cases b
      · rw [h3 rfl] at hne
        exact absurd rfl hne
      · exact (h2 rfl).2
    · exact Good.hid hg.2.2.2 x h hne
theorem beside (hok : ec Φ ops bs = true) {i j : Nat} {x y : Oper} (hx : ops[i]? = some x) (hy : ops[j]? = some y) (hij : i ≠ j) (h : ct bs j i = false) (h' : ct bs i j = false) : Fa Φ ops i j x y := by
  rcases Nat.lt_or_gt_of_ne hij with hlt | hlt
  · exact KW hok hx hy hlt h
  · exact (KW hok hy hx hlt h').symm
theorem Hc (hok : ec Φ ops bs = true) {i : Nat} {o : Oper} (ho : ops[i]? = some o) :
    (∀ e ∈ o.after, Region.binds .any e = true → e.on < i ∧ ct bs i e.on = true) ∧
    ∀ k, ct bs i k = true → (∀ l, ct bs k l = true → ct bs i l = true) ∧ ∃ e ∈ o.after, Region.binds .any e = true ∧ (e.on = k ∨ ct bs e.on k = true) := by
  have hi : i < ops.size := by
    rcases Nat.lt_or_ge i ops.size with h' | h'
    · exact h'
    · rw [Array.getElem?_eq_none h'] at ho; cases ho
  unfold ec at hok
  rw [List.all_eq_true] at hok
  have h1 := hok i (by simpa using hi)
  rw [Bool.and_eq_true] at h1
  have h2 := h1.1
  unfold ahh at h2
  rw [Bool.and_eq_true, gx ho, Array.all_eq_true_iff_forall_mem, List.all_eq_true] at h2
  refine ⟨fun e he hb => ?_, fun k hk => ?_⟩
  · have h3 := h2.1 e he
    rw [hb] at h3
    simp only [Bool.not_true, Bool.false_or, Bool.and_eq_true] at h3
    exact ⟨da h3.1, by unfold ct; rw [h3.1, h3.2]; rfl⟩
  · unfold ct at hk
    rw [Bool.and_eq_true] at hk
    have h3 := h2.2 k (by simpa using da hk.1)
    rw [hk.2] at h3
    simp only [Bool.not_true, Bool.false_or, Bool.and_eq_true] at h3
    refine ⟨fun l hl => ?_, ?_⟩
    · unfold ct at hl ⊢
      rw [Bool.and_eq_true] at hl ⊢
      refine ⟨KQ (Nat.lt_trans (da hl.1) (da hk.1)), ?_⟩
      have h4 := Nat.eq_of_beq_eq_true h3.1
      have h5 := hl.2
      rw [← h4, Nat.testBit_and, Bool.and_eq_true] at h5
      exact h5.2
    · obtain ⟨e, he, h4⟩ := Array.any_eq_true'.1 h3.2
      rw [Bool.and_eq_true, Bool.or_eq_true] at h4
      exact ⟨e, he, h4.1, h4.2.imp Nat.eq_of_beq_eq_true id⟩
theorem Wi (hok : ec Φ ops bs = true) {n i : Nat} (hi : i < ops.size) : LF bs n (ct bs i) := fun k _ hk l hl =>
  ((Hc hok (Array.getElem?_eq_getElem hi)).2 k hk).1 l hl
structure At (te : TE) (Φ : Env) (ops : Array Oper) (bs : Array Nat) (st : St) (F : jr) (D : Nat → Bool) (i : Nat) (o : Oper) (e : Eff) : Prop where
  guard : ∃ b, guarded ops.toList (ba st D F).tm o = some b ∧ (b = true → (Ex te Φ (ba st D F).hp (du i o) (ba st D F).eval o.op).run = some (.ret e)) ∧ (b = false → e = ⟨.undef, []⟩)
  put : ba st (fun k => D k || Nat.beq k i) F = (ba st D F).put o.dst e
theorem Gv {tm tm' : List SV} {o : Oper} (h : ∀ t ∈ o.looksAt ops, tm.getD t .bt = tm'.getD t .bt) : guarded ops.toList tm o = guarded ops.toList tm' o := by
  unfold guarded
  split
  · rfl
  · rename_i j want hj
    have : (ops.toList[j]?).bind (·.dst) = (ops[j]?).bind (·.dst) := by simp
    rw [this]
    split
    · rename_i d hd
      rw [h d (by simp [Oper.looksAt, hj, hd])]
    · rfl
theorem ajH (op : Op) : dp Φ op = 0 ∨ dp Φ op = 1 ∨ dp Φ op = 2 := by
  unfold dp
  repeat' split
  all_goals first | (simp; done) | (rename_i s d _; cases Nat.beq s d <;> simp)
theorem amC (hm : av Φ) (hH : H.1 = nD Φ ops bs) (hok : ec Φ ops bs = true) {F : jr} (hF : Good te Φ ops bs H st F) (hl : F.length = ops.size) {D : Nat → Bool} (hD : LF bs F.length D) {i : Nat} (hi : i < ops.size) (hDi : D i = false)
    (hpre : ∀ k, ct bs i k = true → D k = true) : ∃ o e, ops[i]? = some o ∧ At te Φ ops bs st F D i o e := by
  obtain ⟨o, e, r, hmem, hr, hrl, hback, hgr, hgo⟩ := hF.at i (by omega)
  have ho : ops[i]? = some o := (hF.mem _ hmem).2
  refine ⟨o, e, ho, ?_⟩
  -- those that are done and needn't come ahead
  have side : ∀ x ∈ F, D x.1 = true → ct bs i x.1 = false → Fa Φ ops i x.1 o x.2.1 ∧ ct bs x.1 i = false ∧ x.1 ≠ i := fun x hx hd hn => by
    have hne : i ≠ x.1 := fun e => by rw [e, hd] at hDi; cases hDi
    have h2 : ct bs x.1 i = false := by
      cases hq : ct bs x.1 i
      · rfl
      · rw [hD x.1 (hF.mem x hx).1 hd i hq] at hDi; cases hDi
    exact ⟨beside hok ho (hF.mem x hx).2 hne h2 hn, h2, fun e => hne e.symm⟩
  have hsame : ba st (ct bs i) F = ba st (ct bs i) r := hback _ fun k hk => by
    unfold ct
    have : Nat.blt k i = false := by
      cases hq : Nat.blt k i
      · rfl
      · have := da hq; omega
    rw [this]; rfl
  obtain ⟨b, hb1, hb2, hb3⟩ := hgo.run
  rw [← hsame] at hb1 hb2
  have htm : ∀ t ∈ o.looksAt ops, (ba st D F).tm.getD t .bt = (ba st (ct bs i) F).tm.getD t .bt := fun t ht =>
    J7 (fun x _ h => hpre _ h) fun x hx hd hn he => (side x hx hd hn).1.yx t he ht
  have hev : ∀ x ∈ o.op.operands, (ba st D F).eval x = (ba st (ct bs i) F).eval x := fun x hx => by
    cases x with
    | tmp t =>
      exact htm t (by
        unfold Oper.looksAt
        exact List.mem_append_left _ (List.mem_filterMap.2 ⟨.tmp t, by simpa using hx, rfl⟩))
    | const v => rfl
    | global g => rfl
    | func f => rfl
  have hown := hF.own _ hmem
  have hnone : ∀ n, hJ (du i o) n → ((ba st (ct bs i) F).hp n = none ↔ (ba st D F).hp n = none) := fun n hn => by
    by_cases hs : st.hp n = none
    · have : (ba st D F).hp n = (ba st (ct bs i) F).hp n := AG (fun x _ h => hpre _ h) fun x hx hd hp hin => by
        obtain ⟨s1, s2, s3⟩ := side x hx hd hp
        rcases hF.names x hx n hin with ⟨h1, _⟩ | ⟨_, h1 | ⟨y, hy, h2, h3, h4⟩⟩
        · exact s1.slot (by unfold hJ at hn h1; omega)
        · exact h1 hs
        · by_cases hyi : y.1 = i
          · rw [hyi, s2] at h2; cases h2
          · exact hF.own y hy h4 i o ho (fun e => hyi e.symm) (by unfold hJ at hn h3; omega)
      rw [this]
    · exact ⟨fun h => absurd h (qy hs F), fun h => absurd h (qy hs F)⟩
  refine ⟨⟨b, (Gv htm).trans hb1, fun hb => ?_, hb3⟩, ?_⟩
  · obtain ⟨h0, hh⟩ := hb2 hb
    have hfree : ∀ n, hJ (du i o) n → n ∉ hid H i := fun n hn hm => (lF hh (aaD hm)).2 n hm hn
    rw [Wc hev]
    rcases ajH (Φ := Φ) o.op with hk | hk
    · rw [abz (d := du i o) (hp := agZ (hid H i) (ba st (ct bs i) F).hp) (fun n hn => by rw [SJ (hfree n hn)]; exact hnone n hn) hk]
      exact h0
    · refine Wb hm (d := du i o) (hp := agZ (hid H i) (ba st (ct bs i) F).hp) ⟨fun c ch hc => ?_, fun n hn h => (hnone n hn).1 (by rw [SJ (hfree n hn)] at h; exact h)⟩ h0
      obtain ⟨hcn, hc⟩ := aaC hc
      rw [← hc]
      refine AG (fun x _ h => hpre _ h) fun x hx hd hp hin => ?_
      obtain ⟨s1, s2, s3⟩ := side x hx hd hp
      have hk2 : dp Φ x.2.1.op ≠ 2 := fun e => by
        have hk0 : dp Φ o.op ≠ 0 := by omega
        obtain ⟨_, q2, q3, _⟩ := ag0 hH ho (hF.mem x hx).2 (Ne.symm s3) s2 hp (.inr ⟨e, hk0⟩)
        have hne : x.2.2.upd ≠ [] := fun hq => by rw [hq] at hin; simp [bc] at hin
        exact hcn (q3 c ((lF (hF.hid x hx hne) q2).1 c hin).1)
      rcases hF.names x hx c hin with ⟨h1, h2⟩ | ⟨h1, _⟩
      · obtain ⟨y, hy, y1, y2, y3⟩ := hF.origin (Wi hok hi) h2 F (fun _ h => h) (by rw [hc]; simp)
        by_cases hxy : y.1 = x.1
        · rw [hxy, hp] at y1; cases y1
        · exact hF.own y hy y3 x.1 x.2.1 (hF.mem x hx).2 (fun e => hxy e.symm) (by unfold hJ at h1 y2; omega)
      · exact hk2 h1
  · refine sJ hmem (fun x hx he => hF.amF x hx _ hmem he) hF.pairwise hDi fun x hx hd hlt => ?_
    have hn : ct bs i x.1 = false := by
      unfold ct
      have : Nat.blt x.1 i = false := by
        cases hq : Nat.blt x.1 i
        · rfl
        · have := da hq; omega
      rw [this]; rfl
    obtain ⟨s1, s2, s3⟩ := side x hx hd hn
    refine ⟨s1.dd, fun m hm1 hm2 => ?_⟩
    have hne : e.upd ≠ [] := fun hq => by rw [hq] at hm1; simp [bc] at hm1
    have hne' : x.2.2.upd ≠ [] := fun hq => by rw [hq] at hm2; simp [bc] at hm2
    have n1 := hF.names _ hmem m hm1
    have n2 := hF.names x hx m hm2
    simp only at n1
    rcases n1 with ⟨a1, a2⟩ | ⟨a1, a2⟩
    · rcases n2 with ⟨b1, b2⟩ | ⟨b1, b2 | ⟨y, hy, b2, b3, b4⟩⟩
      · exact s1.slot (by unfold hJ at a1 b1; omega)
      · exact b2 a2
      · by_cases hyi : y.1 = i
        · rw [hyi, s2] at b2; cases b2
        · exact hF.own y hy b4 i o ho (fun e => hyi e.symm) (by unfold hJ at a1 b3; omega)
    · rcases n2 with ⟨b1, b2⟩ | ⟨b1, _⟩
      · rcases a2 with a2 | ⟨y, hy, a2, a3, a4⟩
        · exact a2 b2
        · by_cases hyx : y.1 = x.1
          · rw [hyx] at a2
            rw [hn] at a2; cases a2
          · exact hF.own y hy a4 x.1 x.2.1 (hF.mem x hx).2 (fun e => hyx e.symm) (by unfold hJ at b1 a3; omega)
      · obtain ⟨q1, q2, q3, _⟩ := ag0 hH ho (hF.mem x hx).2 (Ne.symm s3) s2 hn (.inl ⟨a1, by rw [b1]; decide⟩)
        exact ((lF (hF.hid _ hmem hne) q1).1 m hm1).2 (q3 m ((lF (hF.hid x hx hne') q2).1 m hm2).1)
end
end Sx
end Go.Proofs.YtohjofabochgfaaGreat

namespace Go.Proofs.YtohjofabochgfaaGreat
namespace Sx
open Go
def eS (listed : Array Bool) (k : Nat) : Bool := listed.getD k false
theorem V7 {listed : Array Bool} {i : Nat} (hi : i < listed.size) : eS (listed.setIfInBounds i true) = fun k => eS listed k || Nat.beq k i := by
  funext k
  unfold eS
  by_cases h : k = i
  · subst h
    simp [hi]
  · have : Nat.beq k i = false := by
      cases hq : Nat.beq k i
      · rfl
      · exact absurd (Nat.eq_of_beq_eq_true hq) h
    rw [this, Bool.or_false]
    simp [Array.getElem?_setIfInBounds_ne (Ne.symm h)]
theorem cN.drew {R : Ctx} {w : World} (h : cN R w) (n : Nat) : cN R { w with drawn := n } := by
  refine ⟨h.F, h.U, fun c ch hc => ?_, h.apart, h.FU, h.env⟩
  have := h.ch c ch hc
  unfold eg at this ⊢
  exact this
section
variable {P : Program} {te : TE} {Φ : Env} {ops : Array Oper} {bs : Array Nat} {H : Hid} {st : St}
theorem Wy (hok : ec Φ ops bs = true) {listed : Array Bool} (hs : listed.size = ops.size) (hr : Region.ready .any ops listed = []) : ∀ k, k < ops.size → eS listed k = true := by
  intro k
  induction k using Nat.strongRecOn with
  | ind k ih =>
    intro hk
    cases hq : eS listed k
    · have : k ∈ Region.ready .any ops listed := mem_ready.2 ⟨by
        unfold eS at hq
        have hk' : k < listed.size := by omega
        simpa [hk'] using hq, ops[k], Array.getElem?_eq_getElem hk, fun e he hb => by
          have := ((Hc hok (Array.getElem?_eq_getElem hk)).1 e he hb).1
          exact ih e.on this (by omega)⟩
      rw [hr] at this
      cases this
    · rfl
theorem ags (hte : j3 P te) (hΦ : aQ P Φ) (hmono : av Φ) (hH : H.1 = nD Φ ops bs) (hok : ec Φ ops bs = true) {F : jr} (hF : Good te Φ ops bs H st F) (hl : F.length = ops.size)
    {R₀ : Ctx} {K : SE → St → Prop} {Q : Exit → Act → World → Prop} (hK : E9 R₀ K Q) (hend : K .normal (ba st (fun _ => true) F)) :
    ∀ (fuel : Nat) (listed : Array Bool) (R : Ctx) (a : Act) (w : World), listed.size = ops.size → listed.toList.count false = fuel → LF bs F.length (eS listed) → R₀.Ext R →
      py R (ba st (eS listed) F) a w → wpAny P .any ops Q fuel listed a w := by
  have done : ∀ (listed : Array Bool) (R : Ctx) (a : Act) (w : World), (∀ k, k < ops.size → eS listed k = true) → R₀.Ext R → py R (ba st (eS listed) F) a w → Q .normal a w := fun listed R a w h hx hst => by
    rw [jN (D' := fun _ => true) fun x hx => h x.1 (by have := (hF.mem x hx).1; omega)] at hst
    exact hK.normal R _ a w hx hst hend
  intro fuel
  induction fuel with
  | zero =>
    intro listed R a w hs hc hD hx hst
    have hall : ∀ k, k < ops.size → eS listed k = true := fun k hk => by
      have hk' : k < listed.size := by omega
      have h1 := List.count_eq_zero.1 hc
      unfold eS
      cases hq : listed[k]
      · exact absurd (by rw [← hq]; simp) h1
      · simp [hk', hq]
    refine ⟨?_, done listed R a w hall hx hst⟩
    cases hr : Region.ready .any ops listed with
    | nil => rfl
    | cons i r =>
      have : i ∈ Region.ready .any ops listed := by rw [hr]; simp
      obtain ⟨h1, o, ho, h2⟩ := mem_ready.1 this
      have hi : i < ops.size := (Array.getElem?_eq_some_iff.1 ho).1
      have := hall i hi
      have hi' : i < listed.size := by omega
      unfold eS at this
      simp [hi'] at this h1
      rw [this] at h1
      cases h1
  | succ fuel ih =>
    intro listed R a w hs hc hD hx hst
    refine ⟨fun hr => done listed R a w (Wy hok hs hr) hx hst, fun i hi => ?_⟩
    obtain ⟨h1, o, ho, h2⟩ := mem_ready.1 hi
    have hi' : i < ops.size := (Array.getElem?_eq_some_iff.1 ho).1
    have hil : i < listed.size := by omega
    have hnot : listed[i] = false := by simpa [hil] using h1
    have hDi : eS listed i = false := by unfold eS; simp [hil, hnot]
    have hpre : ∀ k, ct bs i k = true → eS listed k = true := fun k hk => by
      obtain ⟨e, he, hb, h3 | h3⟩ := ((Hc hok ho).2 k hk).2
      · rw [← h3]; exact h2 e he hb
      · have h4 := ((Hc hok ho).1 e he hb).1
        exact hD e.on (by omega) (h2 e he hb) k h3
    obtain ⟨o', e, ho', hat⟩ := amC hmono hH hok hF hl hD hi' hDi hpre
    rw [ho] at ho'
    cases ho'
    have hset := V7 hil
    have hcount : (listed.setIfInBounds i true).toList.count false = fuel := by
      rw [Array.toList_setIfInBounds, List.count_set (by simpa using hil)]
      simp [hnot, hc]
    have hclosed : LF bs F.length (eS (listed.setIfInBounds i true)) := fun k hk hd l hpl => by
      rw [hset] at hd ⊢
      simp only [Bool.or_eq_true] at hd ⊢
      rcases hd with hd | hd
      · exact .inl (hD k hk hd l hpl)
      · rw [Nat.eq_of_beq_eq_true hd] at hpl
        exact .inl (hpre l hpl)
    obtain ⟨b, g1, g2, g3⟩ := hat.guard
    have hw := pu hst g1
    unfold wpOp
    simp only [ho, hw]
    cases b
    · simp only [Bool.false_eq_true, if_false]
      refine ih _ R _ _ (by simpa using hs) hcount hclosed hx ?_
      rw [hset, hat.put, g3 rfl]
      exact hst.undef o.dst
    · simp only [if_true]
      refine .inl (Ew hte hΦ hst (g2 rfl) ?_)
      exact fun R' w' v ha hv => ih _ R' _ _ (by simpa using hs) hcount hclosed (hx.trans ha.ext) (by rw [hset, hat.put]; exact hst.put ha hv o.dst)
theorem aJ (hm : P.follows .mixedOrders = true) (hte : j3 P te) (hΦ : aQ P Φ) (hmono : av Φ) : aV P te Φ := by
  intro R₀ id ops K Q R st a w hK hx hst hok h
  obtain ⟨F, h1, h2, h3⟩ := yE (te := te) (Φ := Φ) (ops := ops) (bs := me ops) (H := Vp te Φ ops (me ops) st) (st := st) ops.toList [] trivial (fun k => by simp) h
  have hl : F.length = ops.size := by simpa using h2
  refine wp_region_any hm (ags hte hΦ hmono aaE hok h1 hl hK h3 ops.size _ R a _ (by simp) (by simp) ?_ hx ?_)
  · intro k _ hd
    unfold eS at hd
    simp [Array.getD] at hd
  · have : ba st (eS (Array.replicate ops.size false)) F = st := by
      rw [jN (D' := fun _ => false) fun x hx => by unfold eS; simp [Array.getD]]
      clear h h1 h2 h3 hl
      induction F with
      | nil => rfl
      | cons y r ih => exact ih
    rw [this]
    exact ⟨hst.hp, hst.mem.drew _, hst.tm, hst.defers⟩
end
end Sx
end Go.Proofs.YtohjofabochgfaaGreat

namespace Go.Proofs.YtohjofabochgfaaGreat
namespace Sx
open Go
def vN (ok : Nat → Bool) (t : Ty) (hp : Hp) : SV → Option (List t.T)
  | .lst t' xs => bK t t' xs
  | .emp => some []
  | .own c e | .clip c e => match hp c with
    | some ⟨ep, .row t' xs⟩ => cond (Nat.beq ep e && ok c) (bK t t' xs) none
    | some ⟨ep, .frz t' xs⟩ => cond (Nat.beq ep e) (bK t t' xs) none
    | _ => none
  | .part c e off len => match hp c with
    | some ⟨ep, .row t' xs⟩ => cond (Nat.beq ep e && ok c) ((bK t t' xs).map fun l => (l.drop off).take len) none
    | some ⟨ep, .frz t' xs⟩ => cond (Nat.beq ep e) ((bK t t' xs).map fun l => (l.drop off).take len) none
    | _ => none
  | _ => none
def qi (ok : Nat → Bool) (hp : Hp) : (t : Ty) → List SV → Option t.T
  | .bool, cs => ZV cs
  | .u64, cs => alo cs
  | .u8, cs => pU8 cs
  | .int, cs => alr cs
  | .str, cs => alp cs
  | .elem, cs => ZU cs
  | .prod a b, cs => mU (qi ok hp a (cs.take a.size)) (qi ok hp b (cs.drop a.size))
  | .arr n t, cs => if cs.length = n * t.size then (List.range n).mapM fun i => qi ok hp t ((cs.drop (i * t.size)).take t.size) else none
  | .list t, cs => if 0 < t.size then agR (vN ok t hp) cs else none
section
variable {R : Ctx} {w : World} {F' : Nat → Option Obj} {ok : Nat → Bool} (hm : cN R w) (hF : ∀ b o, R.F b = some o → F' b = some o)
  (hok : ∀ c ch L, ok c = true → R.hp c = some ch → R.σ c = some L → F' L.block = w.heap[L.block]?)
include hm hF hok
theorem wP {c e off len : Nat} {v : Value} {t : Ty} {xs : List t.T} {b : Chunk} (hc : R.hp c = some ⟨e, b⟩) (hb : (b = .row t xs ∧ ok c = true) ∨ b = .frz t xs) (h : R.part c e off len v) :
    Rep F' (.list t) ((xs.drop off).take len) [v] := by
  obtain ⟨h1, h2, ad, cap, rfl, h4, h5⟩ := Ctx.cT hc h
  have hsh : b.shape = (true, t.size, xs.length) := by rcases hb with ⟨rfl, _⟩ | rfl <;> rfl
  rw [hsh] at h2 h5
  simp only at h2 h5
  have hlen : ((xs.drop off).take len).length = len := by simp; omega
  have hch := hm.ch c _ hc
  have key : ∀ (L : Loc) (arr : Array Value) (E : TypeId) (fz : Nat × Nat), R.σ c = some L → xs.length ≤ cb → F' L.block = some (.cells arr E fz) → arr.size = L.base + L.lim → xs.length * t.size ≤ L.lim → Hl R arr L.base t xs →
      Rep F' (.list t) ((xs.drop off).take len) [.slice ad len cap] := fun L arr E fz hσ hmx hbk ha hl hrow => by
    rw [hσ] at h5
    obtain ⟨h6, h7⟩ := h5
    refine ⟨by omega, ad, cap, by rw [hlen], by omega, ?_⟩
    by_cases hl0 : len = 0
    · left; exact List.eq_nil_of_length_eq_zero (by omega)
    · right
      have hle : (off + len) * t.size ≤ xs.length * t.size := Nat.mul_le_mul_right _ h2
      rw [Nat.add_mul] at hle
      refine ⟨L.block, L.base + off * t.size, arr, E, fz, h7 (by omega), hbk, by rw [hlen]; omega, fun i hi => ?_⟩
      rw [hlen] at hi
      have e1 : ((xs.drop off).take len).getD i t.d = xs.getD (off + i) t.d := by
        simp only [List.getD_eq_getElem?_getD]
        rw [List.getElem?_take_of_lt hi, List.getElem?_drop]
      rw [e1, Nat.add_assoc, ← Nat.add_mul]
      exact bO hF _ _ _ (hrow _ (by omega))
  cases hσ : R.σ c with
  | none =>
    rw [hσ] at h5
    simp only at h5
    have : (xs.drop off).take len = [] := List.eq_nil_of_length_eq_zero (by omega)
    rw [this]
    have hl0 : len = 0 := by omega
    subst hl0
    exact nK t ad cap
  | some L =>
    rcases hb with ⟨rfl, hk⟩ | rfl
    · simp only [eg, hσ] at hch
      obtain ⟨_, hmx, _, _, arr, E, hbk, ha, hl, hrow⟩ := hch
      exact key L arr E _ hσ hmx (by rw [hok c _ L hk hc hσ]; exact hbk) ha hl hrow
    · simp only [eg, hσ] at hch
      obtain ⟨_, hmx, arr, E, fz, hbk, ha, hl, hrow⟩ := hch
      exact key L arr E fz hσ hmx (hF _ _ hbk) ha hl hrow
theorem lN {c e : Nat} {t t' : Ty} {xs : List t'.T} {ys : List t.T} {v : Value} {b : Chunk} (hc : R.hp c = some ⟨e, b⟩) (hb : (b = .row t' xs ∧ ok c = true) ∨ b = .frz t' xs) (hy : bK t t' xs = some ys) (h : R.own c e v) :
    Rep F' (.list t) ys [v] := by
  obtain ⟨e, rfl⟩ := aU hy
  subst e
  have := wP hm hF hok hc hb (Ctx.cy hc h)
  have hsh : b.shape = (true, t'.size, xs.length) := by rcases hb with ⟨rfl, _⟩ | rfl <;> rfl
  rw [hsh] at this
  simpa using this
theorem wO {c e off len : Nat} {t t' : Ty} {xs : List t'.T} {ys : List t.T} {v : Value} {b : Chunk} (hc : R.hp c = some ⟨e, b⟩) (hb : (b = .row t' xs ∧ ok c = true) ∨ b = .frz t' xs)
    (hy : (bK t t' xs).map (fun l => (l.drop off).take len) = some ys) (h : R.part c e off len v) : Rep F' (.list t) ys [v] := by
  cases hr : bK t t' xs with
  | none => rw [hr] at hy; cases hy
  | some zs =>
    rw [hr] at hy
    cases hy
    obtain ⟨e, rfl⟩ := aU hr
    subst e
    exact wP hm hF hok hc hb h
theorem KM {t : Ty} {x : SV} {ys : List t.T} {v : Value} (h : vN ok t R.hp x = some ys) (hx : SV.rel R x v) : Rep F' (.list t) ys [v] := by
  cases x <;> simp only [vN] at h <;> try (cases h; done)
  case lst t' xs =>
    obtain ⟨e, rfl⟩ := aU h
    subst e
    simp only [SV.rel] at hx
    exact bO hF _ _ _ hx
  case emp =>
    cases h
    simp only [SV.rel] at hx
    obtain ⟨ad, rfl⟩ := hx
    exact nK t ad 0
  case own c e =>
    simp only [SV.rel] at hx
    split at h
    · rename_i ep t' xs hc
      cases hb : Nat.beq ep e && ok c
      · rw [hb] at h; cases h
      · rw [hb] at h
        rw [Bool.and_eq_true] at hb
        have := Nat.eq_of_beq_eq_true hb.1
        subst this
        exact lN hm hF hok hc (.inl ⟨rfl, hb.2⟩) h hx.2
    · rename_i ep t' xs hc
      cases hb : Nat.beq ep e
      · rw [hb] at h; cases h
      · rw [hb] at h
        have := Nat.eq_of_beq_eq_true hb
        subst this
        exact lN hm hF hok hc (.inr rfl) h hx.2
    · cases h
  case clip c e =>
    simp only [SV.rel] at hx
    split at h
    · rename_i ep t' xs hc
      cases hb : Nat.beq ep e && ok c
      · rw [hb] at h; cases h
      · rw [hb] at h
        rw [Bool.and_eq_true] at hb
        have := Nat.eq_of_beq_eq_true hb.1
        subst this
        exact lN hm hF hok hc (.inl ⟨rfl, hb.2⟩) h hx.2.1
    · rename_i ep t' xs hc
      cases hb : Nat.beq ep e
      · rw [hb] at h; cases h
      · rw [hb] at h
        have := Nat.eq_of_beq_eq_true hb
        subst this
        exact lN hm hF hok hc (.inr rfl) h hx.2.1
    · cases h
  case part c e off len =>
    simp only [SV.rel] at hx
    split at h
    · rename_i ep t' xs hc
      cases hb : Nat.beq ep e && ok c
      · rw [hb] at h; cases h
      · rw [hb] at h
        rw [Bool.and_eq_true] at hb
        have := Nat.eq_of_beq_eq_true hb.1
        subst this
        exact wO hm hF hok hc (.inl ⟨rfl, hb.2⟩) h hx.2
    · rename_i ep t' xs hc
      cases hb : Nat.beq ep e
      · rw [hb] at h; cases h
      · rw [hb] at h
        have := Nat.eq_of_beq_eq_true hb
        subst this
        exact wO hm hF hok hc (.inr rfl) h hx.2
    · cases h
theorem rG : ∀ (t : Ty) (cs : List SV) (x : t.T) (vs : List Value), qi ok R.hp t cs = some x → SV.bH R cs vs → Rep F' t x vs
  | .bool, cs, x, vs, h, hr => bO hF _ _ _ (ez hm .bool cs x vs h hr)
  | .u64, cs, x, vs, h, hr => bO hF _ _ _ (ez hm .u64 cs x vs h hr)
  | .u8, cs, x, vs, h, hr => bO hF _ _ _ (ez hm .u8 cs x vs h hr)
  | .int, cs, x, vs, h, hr => bO hF _ _ _ (ez hm .int cs x vs h hr)
  | .str, cs, x, vs, h, hr => bO hF _ _ _ (ez hm .str cs x vs h hr)
  | .elem, cs, x, vs, h, hr => bO hF _ _ _ (ez hm .elem cs x vs h hr)
  | .prod a b, cs, x, vs, h, hr => by
    obtain ⟨h1, h2⟩ := bn h
    have r1 := rG a _ _ _ h1 (SV.dv hr a.size)
    have r2 := rG b _ _ _ h2 (SV.dw hr a.size)
    refine ⟨?_, r1, r2⟩
    rw [← List.take_append_drop a.size vs, List.length_append, o5 _ _ _ r1, o5 _ _ _ r2]
  | .arr n t, cs, x, vs, h, hr => by
    simp only [qi] at h
    split at h
    · rename_i hl
      obtain ⟨h1, h2⟩ := m4 t.d h
      refine ⟨by rw [SV.aK hr, hl], by simpa using h1, fun i hi => ?_⟩
      have := h2 i (by simpa using hi)
      simp only [List.getElem_range] at this
      exact rG t _ _ _ this (SV.dv (SV.dw hr (i * t.size)) t.size)
    · cases h
  | .list t, cs, x, vs, h, hr => by
    simp only [qi] at h
    split at h
    · obtain ⟨y, rfl, hy⟩ := kt h
      obtain ⟨v, rfl, hv⟩ := b9 hr
      exact KM hm hF hok hy hv
    · cases h
end
theorem mS {ok : Nat → Bool} {hp : Hp} : ∀ {t : Ty} {cs : List SV} {x : t.T}, qi ok hp t cs = some x → cs.length = t.size
  | .bool, cs, x, h => by rw [DV h]; rfl
  | .u64, cs, x, h => by rw [Jr h]; rfl
  | .u8, cs, x, h => by rw [Sf h]; rfl
  | .int, cs, x, h => by rw [Jt h]; rfl
  | .str, cs, x, h => by rw [Js h]; rfl
  | .elem, cs, x, h => by rw [DU h]; rfl
  | .prod a b, cs, x, h => by
    obtain ⟨h1, h2⟩ := bn h
    have l1 := mS h1
    have l2 := mS h2
    simp only [List.length_take, List.length_drop] at l1 l2
    simp only [Ty.size]
    omega
  | .arr n t, cs, x, h => by
    simp only [qi] at h
    split at h
    · assumption
    · cases h
  | .list t, cs, x, h => by
    simp only [qi] at h
    split at h
    · obtain ⟨y, rfl, _⟩ := kt h
      rfl
    · cases h
end Sx
end Go.Proofs.YtohjofabochgfaaGreat

namespace Go.Proofs.YtohjofabochgfaaGreat
namespace Sx
open Go
inductive Sh where
  | val (b : Bool) (t : Ty)
  | own (n : Nat)
  | ptr (n i off : Nat)
  | fn (f : FuncId) (ns : List Nat)
  | ifp (t : TypeId) (n : Nat)
  | l7 | c9 | undef
def Sh.T : Sh → Type
  | .val _ t => t.T
  | _ => Unit
inductive CSh where
  | row (t : Ty)
  | frz (t : Ty)
  | cells (l : List Sh)
  | gone
def ShT : List Sh → Type
  | [] => Unit
  | s :: r => s.T × ShT r
def CSh.T : CSh → Type
  | .row t => List t.T
  | .frz t => List t.T
  | .cells l => ShT l
  | .gone => Unit
def CSh.ep : CSh → Nat
  | .gone => 1
  | _ => 0
def CSh.sD : CSh → Bool
  | .gone => true
  | _ => false
def CD : List (Nat × CSh) → Type
  | [] => Unit
  | c :: r => c.2.T × CD r
def SlT : List (Nat × Sh) → Type
  | [] => Unit
  | c :: r => c.2.T × SlT r
abbrev Bd := List (Nat × Option Nat)
def cD : Bd → Nat → Option (Option Nat)
  | [], _ => none
  | (m, o) :: r, n => cond (Nat.beq m n) (some o) (cD r n)
def OM (b : Bd) (n : Nat) (o : Option Nat) : Bd := match cD b n with
  | some _ => b
  | none => (n, o) :: b
def yq : List Nat → List SV → Bd → Bd
  | n :: ns, .ptr c _ _ _ :: r, b => yq ns r (OM b n (some c))
  | _, _, b => b
def He : Sh → SV → Bd → Bd
  | .own n, .own c _, b => OM b n (some c)
  | .own n, .emp, b => OM b n none
  | .ptr n _ _, .ptr c _ _ _, b => OM b n (some c)
  | .fn _ ns, .fn _ _ caps, b => yq ns caps b
  | .ifp _ n, .iface _ (.ptr c _ _ _), b => OM b n (some c)
  | _, _, b => b
def Sh.size : Sh → Nat
  | .val _ t => t.size
  | _ => 1
def kP : List Sh → List SV → Bd → Bd
  | s :: r, cs, b => kP r (cs.drop s.size) (He s (cs.headD .bt) b)
  | [], _, b => b
def KU (tm : List SV) : List (Nat × Sh) → Bd → Bd
  | (i, s) :: r, b => KU tm r (He s (tm.getD i .bt) b)
  | [], b => b
def dH (hp : Hp) : List (Nat × CSh) → Bd → Bd
  | (n, .cells l) :: r, b => dH hp r (match cD b n with
    | some (some c) => match hp c with
      | some ⟨_, .cells vs⟩ => kP l vs b
      | _ => b
    | _ => b)
  | _ :: r, b => dH hp r b
  | [], b => b
def vm (bd : Bd) (hp : Hp) (n c e : Nat) : Bool := match cD bd n with
  | some (some c') => Nat.beq c' c && (match hp c with
    | some ch => Nat.beq ch.ep e
    | none => false)
  | _ => false
def Ap (bd : Bd) (n : Nat) : Bool := match cD bd n with
  | some none => true
  | _ => false
def qM (bd : Bd) (hp : Hp) : List Nat → List SV → Bool
  | [], [] => true
  | n :: ns, .ptr c e i off :: r => vm bd hp n c e && Nat.beq i 0 && Nat.beq off 0 && qM bd hp ns r
  | _, _ => false
def CN (b : Bool) : Option Unit := cond b (some ()) none
def js (bd : Bd) (hp : Hp) : Sh → List SV → Bool
  | .own n, [.own c e] => vm bd hp n c e
  | .own n, [.emp] => Ap bd n
  | .ptr n i off, [.ptr c e i' off'] => vm bd hp n c e && Nat.beq i i' && Nat.beq off off'
  | .fn f ns, [.fn (.func f') [] caps] => Nat.beq f f' && qM bd hp ns caps
  | .ifp t n, [.iface t' (.ptr c e i off)] => Nat.beq t t' && (vm bd hp n c e && (Nat.beq i 0 && Nat.beq off 0))
  | .l7, [.l7] => true
  | .c9, [.c9] => true
  | .undef, [.undef] => true
  | _, _ => false
def mO (bd : Bd) (ok : Nat → Bool) (hp : Hp) : (s : Sh) → List SV → Option s.T
  | .val _ t => fun cs => qi ok hp t cs
  | .own n => fun cs => CN (js bd hp (.own n) cs)
  | .ptr n i off => fun cs => CN (js bd hp (.ptr n i off) cs)
  | .fn f ns => fun cs => CN (js bd hp (.fn f ns) cs)
  | .ifp t n => fun cs => CN (js bd hp (.ifp t n) cs)
  | .l7 => fun cs => CN (js bd hp .l7 cs)
  | .c9 => fun cs => CN (js bd hp .c9 cs)
  | .undef => fun cs => CN (js bd hp .undef cs)
def m7 : (s : Sh) → s.T → List SV
  | .val _ t, x => unpack t x
  | .own n, _ => [.own n 0]
  | .ptr n i off, _ => [.ptr n 0 i off]
  | .fn f ns, _ => [.fn (.func f) [] (ns.map fun n => .ptr n 0 0 0)]
  | .ifp t n, _ => [.iface t (.ptr n 0 0 0)]
  | .l7, _ => [.l7]
  | .c9, _ => [.c9]
  | .undef, _ => [.undef]
def Sh.agg : Sh → Bool
  | .val b _ => b
  | _ => false
def HU : Bool → SV → Option (List SV)
  | true, .agg l => some l
  | true, _ => none
  | false, x => some [x]
def uY (bd : Bd) (ok : Nat → Bool) (hp : Hp) (s : Sh) (x : SV) : Option s.T :=
  match HU s.agg x with
  | some l => mO bd ok hp s l
  | none => none
def m6 (s : Sh) (x : s.T) : SV := mg s.agg (m7 s x)
def jF (bd : Bd) (ok : Nat → Bool) (hp : Hp) : (l : List Sh) → List SV → Option (ShT l)
  | [], [] => some ()
  | [], _ :: _ => none
  | s :: r, cs => mU (mO bd ok hp s (cs.take s.size)) (jF bd ok hp r (cs.drop s.size))
def hI : (l : List Sh) → ShT l → List SV
  | [], _ => []
  | s :: r, x => m7 s x.1 ++ hI r x.2
def ov (bd : Bd) (ok : Nat → Bool) (hp : Hp) (tm : List SV) : (l : List (Nat × Sh)) → Option (SlT l)
  | [] => some ()
  | c :: r => mU (uY bd ok hp c.2 (tm.getD c.1 .bt)) (ov bd ok hp tm r)
def dM : (l : List (Nat × Sh)) → SlT l → List SV → List SV
  | [], _, tm => tm
  | c :: r, x, tm => dM r x.2 (tm.set c.1 (m6 c.2 x.1))
def ff (bd : Bd) (ok : Nat → Bool) (hp : Hp) : (s : CSh) → Chunk → Option s.T
  | .row t, .row t' xs => bK t t' xs
  | .row _, _ => none
  | .frz t, .frz t' xs => bK t t' xs
  | .frz _, _ => none
  | .cells l, .cells vs => jF bd ok hp l vs
  | .cells _, _ => none
  | .gone, _ => none
def Av : (s : CSh) → Option s.T
  | .gone => some ()
  | _ => none
def F0 : (s : CSh) → Option s.T
  | .row t => cond (Nat.blt 0 t.size) (some ([] : List t.T)) none
  | _ => none
def bu : (s : CSh) → s.T → Chunk
  | .row t, xs => .row t xs
  | .frz t, xs => .frz t xs
  | .cells l, x => .cells (hI l x)
  | .gone, _ => .row .u8 []
def gR (bd : Bd) (ok : Nat → Bool) (hp : Hp) (n : Nat) (s : CSh) : Option s.T :=
  match cD bd n with
  | some (some c) => match hp c with
    | some ch => ff bd ok hp s ch.body
    | none => none
  | some none => F0 s
  | none => Av s
def dg (bd : Bd) (ok : Nat → Bool) (hp : Hp) : (l : List (Nat × CSh)) → Option (CD l)
  | [] => some ()
  | c :: r => mU (gR bd ok hp c.1 c.2) (dg bd ok hp r)
def dc : (l : List (Nat × CSh)) → CD l → Hp
  | [], _ => fun _ => none
  | c :: r, x => fun n => cond (Nat.beq n c.1) (some ⟨c.2.ep, bu c.2 x.1⟩) (dc r x.2 n)
def ajI (c : Nat) (p : Nat × Option Nat) : Bool := match p.2 with
  | some o => Nat.beq o c
  | none => false
def ng (lists : Bool) (bd : Bd) (c : Nat) : Bool := lists && !(bd.any (ajI c))
structure Shape where
  n : Nat
  aeB : List (Nat × Sh)
  chunks : List (Nat × CSh)
  fixed : Nat
  lists : Bool := true
abbrev Shape.T (s : Shape) : Type := SlT s.aeB × CD s.chunks
def Shape.inj (s : Shape) (x : s.T) : St := ⟨dM s.aeB x.1 (List.replicate s.n .bt), dc s.chunks x.2⟩
def Shape.bd (s : Shape) (st : St) : Bd := dH st.hp s.chunks (KU st.tm s.aeB (((List.range s.fixed).filter fun k => !(s.chunks.any fun c => Nat.beq c.1 k && c.2.sD)).map fun k => (k, some k)))
def distinct : List Nat → Bool
  | [] => true
  | x :: r => !(r.any fun y => Nat.beq x y) && distinct r
def Shape.CE (s : Shape) (st : St) (bd : Bd) : Bool :=
  distinct (s.chunks.map (·.1)) &&
  s.chunks.all (fun c => s.chunks.all fun c' => Nat.beq c.1 c'.1 || (match cD bd c.1, cD bd c'.1 with
    | some (some o), some (some o') => !Nat.beq o o'
    | _, _ => true)) &&
  bd.all (fun p => s.chunks.any fun c => Nat.beq c.1 p.1) &&
  (List.range s.fixed).all fun k => (match cD bd k with
    | some (some c) => Nat.beq c k && (match st.hp k with
      | some ch => Nat.beq ch.ep 0
      | none => false)
    | some none => false
    | none => s.chunks.any fun c => Nat.beq c.1 k && c.2.sD)
def Shape.prj (s : Shape) (st : St) : Option s.T :=
  let bd := s.bd st
  cond (s.CE st bd && Nat.beq st.tm.length s.n) (mU (ov bd (ng s.lists bd) st.hp st.tm s.aeB) (dg bd (ng s.lists bd) st.hp s.chunks)) none
def Shape.on (s : Shape) (st : St) (k : s.T → Prop) : Prop := match s.prj st with
  | some x => k x
  | none => False
end Sx
end Go.Proofs.YtohjofabochgfaaGreat

namespace Go.Proofs.YtohjofabochgfaaGreat
namespace Sx
open Go
theorem fR {b : Bool} {x : Unit} (h : CN b = some x) : b = true := by
  cases b
  · cases h
  · rfl
theorem eR {bd : Bd} {hp : Hp} {s : Sh} {cs : List SV} (h : js bd hp s cs = true) : ∃ y, cs = [y] := by
  unfold js at h
  split at h <;> first | exact ⟨_, rfl⟩ | (cases h; done)
theorem FO {bd : Bd} {ok : Nat → Bool} {hp : Hp} {s : Sh} {cs : List SV} {x : s.T} (h : mO bd ok hp s cs = some x) : (m7 s x).length = cs.length := by
  cases s <;> simp only [mO] at h
  case val b t => rw [mS h]; exact eV t x
  all_goals (obtain ⟨y, rfl⟩ := eR (fR h); rfl)
theorem iM {bd : Bd} {ok : Nat → Bool} {hp : Hp} : ∀ {l : List Sh} {cs : List SV} {x : ShT l}, jF bd ok hp l cs = some x → (hI l x).length = cs.length
  | [], [], _, _ => rfl
  | [], _ :: _, _, h => by cases h
  | s :: r, cs, x, h => by
    obtain ⟨h1, h2⟩ := bn h
    have l1 := FO h1
    have l2 := iM h2
    simp only [hI, List.length_append, l1, l2, List.length_take, List.length_drop]
    omega
theorem po {bd : Bd} {ok : Nat → Bool} {hp : Hp} {s : CSh} {b : Chunk} {y : s.T} (h : ff bd ok hp s b = some y) : (bu s y).shape = b.shape := by
  cases s <;> cases b <;> simp only [ff] at h <;> first | (cases h; done) | skip
  case row.row t t' xs =>
    obtain ⟨e, rfl⟩ := aU h
    subst e
    rfl
  case frz.frz t t' xs =>
    obtain ⟨e, rfl⟩ := aU h
    subst e
    rfl
  case cells.cells l vs =>
    simp only [bu, Chunk.shape, iM h]
theorem dk {bd : Bd} {ok : Nat → Bool} {hp : Hp} : ∀ {l : List (Nat × CSh)} {x : CD l}, dg bd ok hp l = some x → ∀ {n : Nat} {ch : Ch}, dc l x n = some ch →
    ∃ (s : CSh) (y : s.T), (n, s) ∈ l ∧ gR bd ok hp n s = some y ∧ ch = ⟨s.ep, bu s y⟩
  | [], _, _, _, _, h => by cases h
  | c :: r, x, h, n, ch, hn => by
    obtain ⟨h1, h2⟩ := bn h
    simp only [dc] at hn
    cases hb : Nat.beq n c.1
    · rw [hb] at hn
      obtain ⟨s, y, h3, h4⟩ := dk h2 hn
      exact ⟨s, y, List.mem_cons_of_mem _ h3, h4⟩
    · rw [hb] at hn
      have hnc := Nat.eq_of_beq_eq_true hb
      subst hnc
      exact ⟨c.2, x.1, by simp, h1, (Option.some.inj hn).symm⟩
theorem m8 : ∀ {l : List (Nat × CSh)} {x : CD l} {n : Nat}, (∃ s, (n, s) ∈ l) → ∃ ch, dc l x n = some ch
  | [], _, _, h => by obtain ⟨_, h⟩ := h; cases h
  | c :: r, x, n, h => by
    simp only [dc]
    cases hb : Nat.beq n c.1
    · obtain ⟨s, h⟩ := h
      rcases List.mem_cons.1 h with h | h
      · rw [← h, Nat.beq_refl] at hb; cases hb
      · exact m8 ⟨s, h⟩
    · exact ⟨_, rfl⟩
theorem K5 : ∀ {bd : Bd} {n : Nat} {o : Option Nat}, cD bd n = some o → ∃ p ∈ bd, p.1 = n
  | [], _, _, h => by cases h
  | (m, o') :: r, n, o, h => by
    simp only [cD] at h
    cases hb : Nat.beq m n
    · rw [hb] at h
      obtain ⟨p, hp, h1⟩ := K5 h
      exact ⟨p, by simp [hp], h1⟩
    · exact ⟨(m, o'), by simp, Nat.eq_of_beq_eq_true hb⟩
def Ctx.named (R : Ctx) (F' : Nat → Option Obj) (U' : La) (bd : Bd) (hp : Hp) : Ctx := ⟨F', U', fun n => match cD bd n with
  | some (some c) => R.σ c
  | _ => none, hp⟩
section
variable {s : Shape} {R : Ctx} {st : St} {bd : Bd} {ok : Nat → Bool} {F' : Nat → Option Obj} {U' : La} {x : CD s.chunks} (hok : s.CE st bd = true) (hx : dg bd ok st.hp s.chunks = some x) (hR : R.hp = st.hp)
include hok hx
theorem Hg {n : Nat} {o : Option Nat} (h : cD bd n = some o) : ∃ (cs : CSh) (y : cs.T), gR bd ok st.hp n cs = some y ∧ dc s.chunks x n = some ⟨0, bu cs y⟩ := by
  obtain ⟨p, hp, rfl⟩ := K5 h
  unfold Shape.CE at hok
  simp only [Bool.and_eq_true, List.all_eq_true, List.any_eq_true] at hok
  obtain ⟨c, hc, hcn⟩ := hok.1.2 p hp
  have := Nat.eq_of_beq_eq_true hcn
  obtain ⟨ch, hch⟩ := m8 (x := x) (n := p.1) ⟨c.2, by rw [← this]; exact hc⟩
  obtain ⟨cs, y, h1, h2, h3⟩ := dk hx hch
  refine ⟨cs, y, h2, ?_⟩
  rw [hch, h3]
  have : cs.ep = 0 := by
    cases cs <;> try rfl
    simp only [gR, h] at h2
    exfalso
    split at h2
    · rename_i heq
      split at h2 <;> simp [ff] at h2
    · simp [F0] at h2
    · rename_i heq
      cases heq
  rw [this]
theorem FZ {n c e : Nat} (h : vm bd st.hp n c e = true) : ∃ b b', st.hp c = some ⟨e, b⟩ ∧ dc s.chunks x n = some ⟨0, b'⟩ ∧ b'.shape = b.shape ∧ (R.named F' U' bd (dc s.chunks x)).σ n = R.σ c := by
  unfold vm at h
  split at h
  · rename_i c' hb
    rw [Bool.and_eq_true] at h
    have := Nat.eq_of_beq_eq_true h.1
    subst this
    have h2 := h.2
    split at h2
    · rename_i ch hch
      have he := Nat.eq_of_beq_eq_true h2
      obtain ⟨cs, y, h3, h4⟩ := Hg hok hx hb
      simp only [gR, hb, hch] at h3
      exact ⟨ch.body, _, by rw [hch, ← he], h4, po h3, by simp only [Ctx.named, hb]⟩
    · cases h2
  · cases h
theorem UU {n : Nat} {ad : Option Addr} (h : Ap bd n = true) : (R.named F' U' bd (dc s.chunks x)).own n 0 (.slice ad 0 0) := by
  unfold Ap at h
  split at h
  · rename_i hb
    obtain ⟨cs, y, h3, h4⟩ := Hg hok hx hb
    simp only [gR, hb] at h3
    cases cs <;> simp only [F0] at h3 <;> try (cases h3; done)
    case row t =>
      cases hz : Nat.blt 0 t.size
      · rw [hz] at h3; cases h3
      · rw [hz] at h3
        cases h3
        refine ⟨_, h4, Nat.le_refl _, fun _ => ⟨_, h4, Nat.le_refl _, fun _ => ?_⟩⟩
        refine ⟨rfl, Nat.le_refl _, ad, 0, rfl, Nat.le_refl _, ?_⟩
        simp only [Ctx.named, hb]
  · cases h
include hR
theorem ajm {n c e : Nat} {v : Value} (h : vm bd st.hp n c e = true) (hv : R.own c e v) : (R.named F' U' bd (dc s.chunks x)).own n 0 v := by
  obtain ⟨b, b', h1, h2, h3, h4⟩ := FZ (R := R) hok hx h
  obtain ⟨h5, h6, ad, cap, h7, h8, h9⟩ := Ctx.cT (b := b) (by rw [hR]; exact h1) (Ctx.cy (by rw [hR]; exact h1) hv)
  refine ⟨_, h2, Nat.le_refl _, fun _ => ⟨_, h2, Nat.le_refl _, fun _ => ?_⟩⟩
  rw [h4]
  simp only [h3]
  exact ⟨h5, h6, ad, cap, h7, h8, h9⟩
theorem MW {n c e i off : Nat} {v : Value} (h : vm bd st.hp n c e = true) (hv : R.ptr c e i off v) : (R.named F' U' bd (dc s.chunks x)).ptr n 0 i off v := by
  obtain ⟨b, b', h1, h2, h3, h4⟩ := FZ (R := R) hok hx h
  obtain ⟨ch, g1, g2, g3⟩ := hv
  rw [hR, h1] at g1
  cases g1
  obtain ⟨L, g4, g5⟩ := g3 rfl
  refine ⟨_, h2, Nat.le_refl _, fun _ => ⟨L, by rw [h4]; exact g4, ?_⟩⟩
  simp only [h3]
  exact g5
theorem R4 : ∀ (ns : List Nat) (caps : List SV) (us : List Value), qM bd st.hp ns caps = true → SV.bH R caps us → SV.bH (R.named F' U' bd (dc s.chunks x)) (ns.map fun n => .ptr n 0 0 0) us
  | [], [], us, _, h => h
  | [], _ :: _, _, h, _ => by cases h
  | n :: ns, [], _, h, _ => by cases h
  | n :: ns, y :: r, us, h, hr => by
    cases y <;> simp only [qM] at h <;> try (cases h; done)
    case ptr c e i off =>
      simp only [Bool.and_eq_true] at h
      obtain ⟨⟨⟨h1, h2⟩, h3⟩, h4⟩ := h
      have e1 := Nat.eq_of_beq_eq_true h2
      have e2 := Nat.eq_of_beq_eq_true h3
      subst e1 e2
      simp only [SV.bH] at hr
      obtain ⟨v, us', rfl, hv, hr⟩ := hr
      simp only [SV.rel] at hv
      simp only [List.map_cons, SV.bH]
      exact ⟨v, us', rfl, by simp only [SV.rel]; exact ⟨hv.1, MW hok hx hR h1 hv.2⟩, R4 ns r us' h4 hr⟩
theorem uZ {w : World} (hm : cN R w) (hF : ∀ b o, R.F b = some o → F' b = some o) (hok' : ∀ c ch L, ok c = true → R.hp c = some ch → R.σ c = some L → F' L.block = w.heap[L.block]?) {sh : Sh} {cs : List SV} {y : sh.T} {us : List Value} (h : mO bd ok st.hp sh cs = some y) (hr : SV.bH R cs us) : SV.bH (R.named F' U' bd (dc s.chunks x)) (m7 sh y) us := by
  cases sh <;> simp only [mO] at h
  case val b t =>
    rw [← hR] at h
    exact dY t y us (rG hm hF hok' t cs y us h hr)
  case own n =>
    replace h := fR h
    obtain ⟨z, rfl⟩ := eR h
    obtain ⟨v, rfl, hv⟩ := b9 hr
    cases z <;> simp only [js, Bool.false_eq_true] at h
    case own c e =>
      simp only [SV.rel] at hv
      exact aR (by simp only [SV.rel]; exact ⟨hv.1, ajm hok hx hR h hv.2⟩)
    case emp =>
      simp only [SV.rel] at hv
      obtain ⟨ad, rfl⟩ := hv
      exact aR (by simp only [SV.rel]; exact ⟨rfl, UU hok hx h⟩)
  case ptr n i off =>
    replace h := fR h
    obtain ⟨z, rfl⟩ := eR h
    obtain ⟨v, rfl, hv⟩ := b9 hr
    cases z <;> simp only [js, Bool.false_eq_true, Bool.and_eq_true] at h
    case ptr c e i' off' =>
      obtain ⟨⟨h1, h2⟩, h3⟩ := h
      have e1 := Nat.eq_of_beq_eq_true h2
      have e2 := Nat.eq_of_beq_eq_true h3
      subst e1 e2
      simp only [SV.rel] at hv
      exact aR (by simp only [SV.rel]; exact ⟨hv.1, MW hok hx hR h1 hv.2⟩)
  case fn f ns =>
    replace h := fR h
    obtain ⟨z, rfl⟩ := eR h
    obtain ⟨v, rfl, hv⟩ := b9 hr
    cases z <;> try (simp only [js, Bool.false_eq_true] at h; done)
    case fn g first caps =>
      cases g with
      | func f' =>
        cases first with
        | nil =>
          simp only [js, Bool.and_eq_true] at h
          have e1 := Nat.eq_of_beq_eq_true h.1
          subst e1
          simp only [SV.rel] at hv
          obtain ⟨l1, l2, rfl, h3, h4⟩ := hv
          exact aR (by simp only [SV.rel]; exact ⟨l1, l2, rfl, h3, R4 hok hx hR ns _ l2 h.2 h4⟩)
        | cons a b => simp [js] at h
      | _ => simp [js] at h
  case ifp t n =>
    replace h := fR h
    obtain ⟨z, rfl⟩ := eR h
    obtain ⟨v, rfl, hv⟩ := b9 hr
    cases z <;> try (simp only [js, Bool.false_eq_true] at h; done)
    case iface t' q =>
      cases q <;> try (simp only [js, Bool.false_eq_true] at h; done)
      case ptr c e i off =>
        simp only [js, Bool.and_eq_true] at h
        obtain ⟨h0, h1, h2, h3⟩ := h
        have e0 := Nat.eq_of_beq_eq_true h0
        have e1 := Nat.eq_of_beq_eq_true h2
        have e2 := Nat.eq_of_beq_eq_true h3
        subst e0 e1 e2
        simp only [SV.rel] at hv
        obtain ⟨y, rfl, hy⟩ := hv
        exact aR (by simp only [SV.rel]; exact ⟨y, rfl, hy.1, MW hok hx hR h1 hy.2⟩)
  all_goals (
    replace h := fR h
    obtain ⟨z, rfl⟩ := eR h
    obtain ⟨v, rfl, hv⟩ := b9 hr
    cases z <;> simp only [js, Bool.false_eq_true] at h
    simp only [SV.rel] at hv
    exact aR (by simp only [SV.rel]; exact hv))
theorem wD {w : World} (hm : cN R w) (hF : ∀ b o, R.F b = some o → F' b = some o) (hok' : ∀ c ch L, ok c = true → R.hp c = some ch → R.σ c = some L → F' L.block = w.heap[L.block]?) : ∀ {l : List Sh} {cs : List SV} {y : ShT l} {us : List Value}, jF bd ok st.hp l cs = some y → SV.bH R cs us → SV.bH (R.named F' U' bd (dc s.chunks x)) (hI l y) us
  | [], [], _, _, _, hr => hr
  | [], _ :: _, _, _, h, _ => by cases h
  | sh :: r, cs, y, us, h, hr => by
    obtain ⟨h1, h2⟩ := bn h
    have r1 := uZ (U' := U') hok hx hR hm hF hok' h1 (SV.dv hr sh.size)
    have r2 := wD hm hF hok' h2 (SV.dw hr sh.size)
    have := SV.ck r1 r2
    rwa [List.take_append_drop] at this
theorem M2 {w : World} (hm : cN R w) (hF : ∀ b o, R.F b = some o → F' b = some o) (hok' : ∀ c ch L, ok c = true → R.hp c = some ch → R.σ c = some L → F' L.block = w.heap[L.block]?) {sh : Sh} {z : SV} {y : sh.T} {v : Value} (h : uY bd ok st.hp sh z = some y) (hr : SV.rel R z v) : SV.rel (R.named F' U' bd (dc s.chunks x)) (m6 sh y) v := by
  unfold uY at h
  unfold m6
  cases ha : sh.agg <;> rw [ha] at h
  · have h1 := uZ (U' := U') hok hx hR hm hF hok' h (aR hr)
    simp only [mg, Bool.false_eq_true, if_false]
    cases hc : m7 sh y with
    | nil => rw [hc] at h1; simp only [SV.bH] at h1; cases h1
    | cons u l =>
      rw [hc] at h1
      simp only [SV.bH] at h1
      obtain ⟨v', r, he, h2, _⟩ := h1
      cases he
      exact h2
  · cases z <;> simp only [HU] at h <;> try (cases h; done)
    case agg l =>
      simp only [SV.rel] at hr
      obtain ⟨vs, rfl, h1, h2⟩ := hr
      exact sy (uZ hok hx hR hm hF hok' h h1) h2
theorem jE {w : World} (hm : cN R w) (hF : ∀ b o, R.F b = some o → F' b = some o) (hok' : ∀ c ch L, ok c = true → R.hp c = some ch → R.σ c = some L → F' L.block = w.heap[L.block]?) {tmps : List Value} (ht : SV.bH R st.tm tmps) : ∀ {l : List (Nat × Sh)} {y : SlT l} {tm : List SV}, ov bd ok st.hp st.tm l = some y →
    SV.bH (R.named F' U' bd (dc s.chunks x)) tm tmps → SV.bH (R.named F' U' bd (dc s.chunks x)) (dM l y tm) tmps
  | [], _, _, _, h => h
  | c :: r, y, tm, h, htm => by
    obtain ⟨h1, h2⟩ := bn h
    simp only [dM]
    refine jE hm hF hok' ht h2 ?_
    by_cases hc : c.1 < st.tm.length
    · have hl := SV.aK ht
      have hc' : c.1 < tmps.length := by omega
      have hv := SV.jy ht c.1 hc hc'
      have hg : st.tm.getD c.1 .bt = st.tm[c.1] := by simp [List.getD_eq_getElem?_getD, List.getElem?_eq_getElem hc]
      rw [hg] at h1
      have h3 := SV.Rx htm c.1 (M2 hok hx hR hm hF hok' h1 hv)
      rwa [List.set_getElem_self] at h3
    · have : tm.length = st.tm.length := by rw [← SV.aK htm, ← SV.aK ht]
      rw [List.set_eq_of_length_le (by omega)]
      exact htm
end
end Sx
end Go.Proofs.YtohjofabochgfaaGreat

namespace Go.Proofs.YtohjofabochgfaaGreat
namespace Sx
open Go
theorem wC {bd : Bd} {ok : Nat → Bool} {hp : Hp} {s : CSh} {b : Chunk} {y : s.T} (h : ff bd ok hp s b = some y) : (bu s y).mut = b.mut := by
  cases s <;> cases b <;> simp only [ff] at h <;> first | (cases h; done) | rfl
theorem ib : ∀ {bd : Bd} {n : Nat} {o : Option Nat}, cD bd n = some o → (n, o) ∈ bd
  | [], _, _, h => by cases h
  | (m, o') :: r, n, o, h => by
    simp only [cD] at h
    cases hb : Nat.beq m n
    · rw [hb] at h
      exact List.mem_cons_of_mem _ (ib h)
    · rw [hb] at h
      have := Nat.eq_of_beq_eq_true hb
      subst this
      cases h
      simp
theorem Ef {l : Bool} {bd : Bd} {n c : Nat} (h : cD bd n = some (some c)) : ng l bd c = false := by
  have hm := ib h
  unfold ng
  have : bd.any (ajI c) = true := List.any_eq_true.2 ⟨_, hm, by simp [ajI]⟩
  rw [this]
  cases l <;> rfl
open Classical in
noncomputable def Ctx.frozen (R : Ctx) (w : World) (ok : Nat → Bool) : Nat → Option Obj := fun b =>
  if ∃ c ch L, ok c = true ∧ R.hp c = some ch ∧ R.σ c = some L ∧ L.block = b then w.heap[b]? else R.F b
theorem Gx {R : Ctx} {w : World} (hm : cN R w) (ok : Nat → Bool) : ∀ b o, R.F b = some o → R.frozen w ok b = some o := fun b o h => by
  unfold Ctx.frozen
  split
  · exact hm.F b o h
  · exact h
theorem NQ {R : Ctx} {w : World} (hm : cN R w) (ok : Nat → Bool) : ∀ b o, R.frozen w ok b = some o → w.heap[b]? = some o := fun b o h => by
  unfold Ctx.frozen at h
  split at h
  · exact h
  · exact hm.F b o h
theorem J0 {R : Ctx} (w : World) (ok : Nat → Bool) : ∀ c ch L, ok c = true → R.hp c = some ch → R.σ c = some L → R.frozen w ok L.block = w.heap[L.block]? := fun c ch L h1 h2 h3 => by
  unfold Ctx.frozen
  rw [if_pos ⟨c, ch, L, h1, h2, h3, rfl⟩]
theorem c8 {R : Ctx} {w : World} (hm : cN R w) {c : Nat} {ch : Ch} {L : Loc} (hc : R.hp c = some ch) (hσ : R.σ c = some L) :
    (ch.body.mut = true → R.F L.block = none ∧ R.U L.block = none) ∧ (ch.body.mut = false → ∃ o, R.F L.block = some o) := by
  have h := hm.ch c ch hc
  obtain ⟨ep, body⟩ := ch
  cases body with
  | row t xs =>
    simp only [eg, hσ] at h
    exact ⟨fun _ => ⟨h.2.2.1, h.2.2.2.1⟩, fun e => (by cases e)⟩
  | frz t xs =>
    simp only [eg, hσ] at h
    obtain ⟨_, _, arr, E, fz, h1, _⟩ := h
    exact ⟨fun e => (by cases e), fun _ => ⟨_, h1⟩⟩
  | cells vs =>
    simp only [eg] at h
    obtain ⟨L', h0, h1, h2, _⟩ := h
    rw [hσ] at h0
    cases h0
    exact ⟨fun _ => ⟨h1, h2⟩, fun e => (by cases e)⟩
theorem afR {R : Ctx} {w : World} (hm : cN R w) (ok : Nat → Bool) : ∀ b o, R.frozen w ok b = some o → R.U b = none := fun b o h => by
  unfold Ctx.frozen at h
  split at h
  · rename_i hq
    obtain ⟨c, ch, L, h1, h2, h3, rfl⟩ := hq
    obtain ⟨k1, k2⟩ := c8 hm h2 h3
    cases hmu : ch.body.mut
    · obtain ⟨o', ho⟩ := k2 hmu
      exact hm.FU _ o' ho
    · exact (k1 hmu).2
  · exact hm.FU b o h
theorem Vt {R : Ctx} {w : World} (hm : cN R w) {ok : Nat → Bool} {c : Nat} {ch : Ch} {L : Loc} (hc : R.hp c = some ch) (hσ : R.σ c = some L) (hmu : ch.body.mut = true) (hn : ok c = false) : R.frozen w ok L.block = none := by
  unfold Ctx.frozen
  split
  · rename_i hq
    obtain ⟨c', ch', L', h1, h2, h3, h4⟩ := hq
    cases hm' : ch'.body.mut
    · obtain ⟨o', ho⟩ := (c8 hm h2 h3).2 hm'
      rw [h4, ((c8 hm hc hσ).1 hmu).1] at ho
      cases ho
    · have := hm.apart c' c ch' ch L' L h2 hc hm' hmu h3 hσ h4
      rw [this, hn] at h1
      cases h1
  · exact ((c8 hm hc hσ).1 hmu).1
section
variable {s : Shape} {R : Ctx} {st : St} {bd : Bd} {x : CD s.chunks} (hok : s.CE st bd = true) (hx : dg bd (ng s.lists bd) st.hp s.chunks = some x) (hR : R.hp = st.hp)
  {w : World} (hm : cN R w) {F' : Nat → Option Obj} {U' : La} (hF : ∀ b o, R.F b = some o → F' b = some o)
  (hok' : ∀ c ch L, ng s.lists bd c = true → R.hp c = some ch → R.σ c = some L → F' L.block = w.heap[L.block]?)
  (hmut : ∀ n c ch L, cD bd n = some (some c) → R.hp c = some ch → ch.body.mut = true → R.σ c = some L → F' L.block = none ∧ U' L.block = none)
include hok hx hR hm hF hok' hmut
theorem abM {n c : Nat} {cs : CSh} {y : cs.T} {ch : Ch} (hb : cD bd n = some (some c)) (hc : R.hp c = some ch) (h : ff bd (ng s.lists bd) st.hp cs ch.body = some y) :
    eg (R.named F' U' bd (dc s.chunks x)) w n ⟨cs.ep, bu cs y⟩ := by
  have h0 := hm.ch c ch hc
  have hσ : (R.named F' U' bd (dc s.chunks x)).σ n = R.σ c := by simp only [Ctx.named, hb]
  obtain ⟨ep, body⟩ := ch
  cases cs <;> cases body <;> simp only [ff] at h <;> try (cases h; done)
  case row.row t t' xs =>
    obtain ⟨e, rfl⟩ := aU h
    subst e
    simp only [eg, bu] at h0 ⊢
    rw [hσ]
    refine ⟨h0.1, h0.2.1, ?_⟩
    cases hL : R.σ c with
    | none => have := h0.2.2; rw [hL] at this; exact this
    | some L =>
      have := h0.2.2
      rw [hL] at this
      obtain ⟨c1, c2, arr, E, c3, c4, c5, c6⟩ := this
      exact ⟨(hmut n c _ L hb hc rfl hL).1, (hmut n c _ L hb hc rfl hL).2, arr, E, c3, c4, c5, fun i hi => bO hF _ _ _ (c6 i hi)⟩
  case frz.frz t t' xs =>
    obtain ⟨e, rfl⟩ := aU h
    subst e
    simp only [eg, bu] at h0 ⊢
    rw [hσ]
    refine ⟨h0.1, h0.2.1, ?_⟩
    cases hL : R.σ c with
    | none => have := h0.2.2; rw [hL] at this; exact this
    | some L =>
      have := h0.2.2
      rw [hL] at this
      obtain ⟨arr, E, fz, c3, c4, c5, c6⟩ := this
      exact ⟨arr, E, fz, hF _ _ c3, c4, c5, fun i hi => bO hF _ _ _ (c6 i hi)⟩
  case cells.cells l vs =>
    simp only [eg, bu] at h0 ⊢
    obtain ⟨L, h1, h2, h3, arr, E, h4, h5, h6, h7, h8⟩ := h0
    exact ⟨L, by rw [hσ]; exact h1, (hmut n c _ L hb hc rfl h1).1, (hmut n c _ L hb hc rfl h1).2, arr, E, h4, h5, by rw [iM h]; exact h6, wD hok hx hR hm hF hok' h h7, h8⟩
theorem F2 (Gu : ∀ b o, F' b = some o → w.heap[b]? = some o) (heapU : ∀ b o, U' b = some o → w.heap[b]? = some o) (hFU : ∀ b o, F' b = some o → U' b = none) (henv : OR U'.env w) : cN (R.named F' U' bd (dc s.chunks x)) w := by
  refine ⟨Gu, heapU, fun n ch hn => ?_, fun n n' ch ch' L L' h1 h2 m1 m2 s1 s2 hbl => ?_, hFU, henv⟩
  · obtain ⟨cs, y, hmem, hp, rfl⟩ := dk hx (hn : dc s.chunks x n = some ch)
    unfold gR at hp
    split at hp
    · rename_i c hb
      split at hp
      · rename_i ch hc
        exact abM hok hx hR hm hF hok' hmut hb (by rw [hR]; exact hc) hp
      · cases hp
    · rename_i hb
      cases cs <;> simp only [F0] at hp <;> try (cases hp; done)
      case row t =>
        cases hz : Nat.blt 0 t.size
        · rw [hz] at hp; cases hp
        · rw [hz] at hp
          cases hp
          have hσ : (R.named F' U' bd (dc s.chunks x)).σ n = none := by simp only [Ctx.named, hb]
          simp only [eg, bu]
          rw [hσ]
          exact ⟨da hz, by simp, trivial⟩
    · rename_i hb
      cases cs <;> simp only [Av] at hp <;> try (cases hp; done)
      have hσ : (R.named F' U' bd (dc s.chunks x)).σ n = none := by simp only [Ctx.named, hb]
      simp only [eg, bu]
      rw [hσ]
      exact ⟨by decide, by simp, trivial⟩
  · have key : ∀ (n : Nat) (ch : Ch) (L : Loc), (R.named F' U' bd (dc s.chunks x)).hp n = some ch → ch.body.mut = true → (R.named F' U' bd (dc s.chunks x)).σ n = some L →
        ∃ c ch₀ cs, (n, cs) ∈ s.chunks ∧ cD bd n = some (some c) ∧ R.hp c = some ch₀ ∧ ch₀.body.mut = true ∧ R.σ c = some L := fun n ch L h m hs => by
      obtain ⟨cs, y, hmem, hp, rfl⟩ := dk hx (h : dc s.chunks x n = some ch)
      unfold gR at hp
      simp only [Ctx.named] at hs
      split at hp
      · rename_i c hb
        rw [hb] at hs
        split at hp
        · rename_i ch hc
          exact ⟨c, ch, cs, hmem, hb, by rw [hR]; exact hc, by rw [← wC hp]; exact m, hs⟩
        · cases hp
      · rename_i hb
        rw [hb] at hs
        cases hs
      · rename_i hb
        rw [hb] at hs
        cases hs
    obtain ⟨c, c₀, cs, a1, a2, a3, a4, a5⟩ := key n ch L h1 m1 s1
    obtain ⟨c', c₀', cs', b1, b2, b3, b4, b5⟩ := key n' ch' L' h2 m2 s2
    have hcc := hm.apart c c' c₀ c₀' L L' a3 b3 a4 b4 a5 b5 hbl
    subst hcc
    unfold Shape.CE at hok
    simp only [Bool.and_eq_true, List.all_eq_true] at hok
    have h3 := hok.1.1.2 _ a1 _ b1
    simp only [a2, b2, Bool.or_eq_true, Nat.beq_refl, Bool.not_true, Bool.false_eq_true, or_false] at h3
    exact Nat.eq_of_beq_eq_true h3
end
def Small (R : Ctx) (k : Nat) : Prop := ∀ c ch, R.hp c = some ch → c < k ∧ ch.ep = 0
theorem Shape.amE {s : Shape} {R₀ R : Ctx} {st : St} {a : Act} {w : World} {x : s.T} (h0 : Small R₀ s.fixed) (hx : R₀.Ext R) (h : py R st a w) (hp : s.prj st = some x) :
    ∃ R', R₀.Ext R' ∧ py R' (s.inj x) a w := by
  unfold Shape.prj at hp
  dsimp only at hp
  cases hb : s.CE st (s.bd st) && Nat.beq st.tm.length s.n
  · rw [hb] at hp; cases hp
  · rw [hb] at hp
    rw [Bool.and_eq_true] at hb
    obtain ⟨h1, h2⟩ := bn hp
    have hlen := Nat.eq_of_beq_eq_true hb.2
    refine ⟨R.named (R.frozen w (ng s.lists (s.bd st))) R.U (s.bd st) (dc s.chunks x.2), ⟨fun b o h' => Gx h.mem _ b o (hx.F b o h'), hx.U, fun c ch hc => ?_⟩, rfl, F2 hb.1 h2 h.hp h.mem (Gx h.mem _) (J0 w _) (fun n c ch L k1 k2 k3 k4 => ⟨Vt h.mem k2 k4 k3 (Ef k1), ((c8 h.mem k2 k4).1 k3).2⟩) (NQ h.mem _) h.mem.U (afR h.mem _) h.mem.env, ?_, h.defers⟩
    · obtain ⟨hlt, hep⟩ := h0 c ch hc
      have hok := hb.1
      unfold Shape.CE at hok
      simp only [Bool.and_eq_true, List.all_eq_true] at hok
      have h3 := hok.2 c (by simpa using hlt)
      obtain ⟨ch1, g1, g2, g3⟩ := hx.ch c ch hc
      split at h3
      · rename_i c' hbd
        have h4 := (Bool.and_eq_true _ _ ▸ h3 : _ ∧ _)
        have := Nat.eq_of_beq_eq_true h4.1
        subst this
        have hnow : vm (s.bd st) st.hp c' c' 0 = true := by
          unfold vm
          rw [hbd]
          exact h3
        obtain ⟨b, b', k1, k2, k3, k4⟩ := FZ (R := R) hb.1 h2 hnow
        rw [h.hp, k1] at g1
        cases g1
        exact ⟨_, k2, g2, fun he => ⟨by have := (g3 he).1; exact k3.trans this, k4.trans (g3 he).2⟩⟩
      · cases h3
      · rename_i hbd
        obtain ⟨q, hq, hq'⟩ := List.any_eq_true.1 h3
        rw [Bool.and_eq_true] at hq'
        have e1 := Nat.eq_of_beq_eq_true hq'.1
        obtain ⟨ch2, hch2⟩ := m8 (x := x.2) (n := c) ⟨q.2, by rw [← e1]; exact hq⟩
        obtain ⟨cs, y, k1, k2, k3⟩ := dk h2 hch2
        have hg : cs = .gone := by
          simp only [gR, hbd] at k2
          cases cs <;> first | rfl | (simp [Av] at k2; done)
        subst hg
        refine ⟨ch2, hch2, ?_, fun he => ?_⟩
        · rw [k3, hep]; exact Nat.zero_le _
        · rw [k3, hep] at he; cases he
    · refine jE hb.1 h2 h.hp h.mem (Gx h.mem _) (J0 w _) h.tm h1 (SV.uj ?_ fun i hi hi' => ?_)
      · rw [List.length_replicate, ← hlen]
        exact SV.aK h.tm
      · simp [SV.rel]
end Sx
end Go.Proofs.YtohjofabochgfaaGreat

namespace Go.Proofs.YtohjofabochgfaaGreat
namespace Sx
open Go
def abm (id : Nat) : SE → SE
  | .exit j => cond (Nat.beq j id) .normal (.exit j)
  | e => e
theorem Shape.FY {s : Shape} {R₀ R : Ctx} {st : St} {a : Act} {w : World} {k : s.T → Prop} (h0 : Small R₀ s.fixed) (hx : R₀.Ext R) (h : py R st a w) (hp : s.on st k) :
    ∃ x R', k x ∧ R₀.Ext R' ∧ py R' (s.inj x) a w := by
  unfold Shape.on at hp
  split at hp
  · rename_i x hq
    obtain ⟨R', h1, h2⟩ := Shape.amE h0 hx h hq
    exact ⟨x, R', hp, h1, h2⟩
  · exact hp.elim
section
variable {P : Program} {te : TE} {Φ : Env} (hte : j3 P te) (hΦ : aQ P Φ) (hany : aV P te Φ)
include hte hΦ hany
end
def TH : List (Nat × Code) → Nat → Code
  | [], _ => .skip
  | (i, c) :: r, id => cond (Nat.beq i id) c (TH r id)
def TG (c : Code) (id : Nat) : Code := TH (blocks c) id
def bE (c : Code) (id : Nat) : Code := match TG c id with
  | .loop b => b
  | c => c
def aax (c : Code) (id : Nat) : Bool := match TG c id with
  | .loop _ => true
  | _ => false
theorem NH {c : Code} {id : Nat} (h : aax c id = true) : TG c id = .loop (bE c id) := by
  unfold aax at h
  unfold bE
  split at h
  · rename_i b hb
    rw [hb]
  · cases h
theorem EG : ∀ {l : List (Nat × Code)}, distinct (l.map (·.1)) = true → ∀ p ∈ l, TH l p.1 = p.2
  | [], _, p, hp => by cases hp
  | q :: r, h, p, hp => by
    simp only [List.map_cons, distinct, Bool.and_eq_true, Bool.not_eq_true'] at h
    simp only [TH]
    rcases List.mem_cons.1 hp with he | he
    · subst he
      rw [Nat.beq_refl]; rfl
    · have : Nat.beq q.1 p.1 = false := by
        cases hq : Nat.beq q.1 p.1
        · rfl
        · have := h.1
          rw [List.any_eq_false] at this
          exact absurd hq (this p.1 (List.mem_map.2 ⟨p, he, rfl⟩))
      rw [this]
      exact EG h.2 p he
def bg (id : Nat) (l : St → (SE → St → Prop) → Prop) (Λ : Lam) : Lam := fun j => cond (Nat.beq j id) (some l) (Λ j)
def ax : Lam := fun _ => none
theorem ag {P : Program} {R₀ : Ctx} {c : Code} : Bw P R₀ ax c := fun _ _ _ h => by cases h
theorem aC {P : Program} {R₀ : Ctx} {c : Code} (hd : distinct ((blocks c).map (·.1)) = true) {id : Nat} {l : St → (SE → St → Prop) → Prop} {Λ : Lam} (hl : aax c id = true) (h : HH P R₀ (.block id (.loop (bE c id))) l) (hΛ : Bw P R₀ Λ c) :
    Bw P R₀ (bg id l Λ) c := fun p hp l' hl' => by
  unfold bg at hl'
  cases hb : Nat.beq p.1 id
  · rw [hb] at hl'; exact hΛ p hp l' hl'
  · rw [hb] at hl'
    cases hl'
    have e := Nat.eq_of_beq_eq_true hb
    have := EG hd p hp
    rw [← this, e]
    have h2 := NH hl
    unfold TG at h2
    rw [h2]
    exact h
end Sx
end Go.Proofs.YtohjofabochgfaaGreat

namespace Go.Proofs.YtohjofabochgfaaGreat
namespace Sx
open Go
abbrev Nm := Nat → Nat × Nat
def vn (ν : Nm) : (s : Sh) → s.T → List SV
  | .val _ t, x => unpack t x
  | .own n, _ => [.own (ν n).1 (ν n).2]
  | .ptr n i off, _ => [.ptr (ν n).1 (ν n).2 i off]
  | .fn f ns, _ => [.fn (.func f) [] (ns.map fun n => .ptr (ν n).1 (ν n).2 0 0)]
  | .ifp t n, _ => [.iface t (.ptr (ν n).1 (ν n).2 0 0)]
  | .l7, _ => [.l7]
  | .c9, _ => [.c9]
  | .undef, _ => [.undef]
def Gr (ν : Nm) (s : Sh) (x : s.T) : SV := mg s.agg (vn ν s x)
def kE (ν : Nm) : (l : List Sh) → ShT l → List SV
  | [], _ => []
  | s :: r, x => vn ν s x.1 ++ kE ν r x.2
def cW (ν : Nm) : (s : CSh) → s.T → Chunk
  | .row t, xs => .row t xs
  | .frz t, xs => .frz t xs
  | .cells l, x => .cells (kE ν l x)
  | .gone, _ => .row .u8 []
structure aw where
  rs : List Sh
  chunks : List (Nat × CSh)
  pan : Bool
def indexed : Nat → List Sh → List (Nat × Sh)
  | _, [] => []
  | i, s :: r => (i, s) :: indexed (i + 1) r
def aw.shape (o : aw) (fixed : Nat) : Shape := ⟨o.rs.length, indexed 0 o.rs, o.chunks, fixed, true⟩
def YB (n : Nat) (v : SV) : List SV := cond (Nat.beq n 1) [v] (match v with
  | .tup l => l
  | _ => List.replicate (n + 1) .bt)
structure ao where
  as : List Sh
  chunks : List (Nat × CSh)
  bw : Bool
  fixed : Nat
  mod : Bool
def ao.inp (S : ao) : Shape := ⟨S.as.length, indexed 0 S.as, S.chunks, 0, S.bw⟩
abbrev ao.T (S : ao) : Type := S.inp.T
abbrev ao.Y (S : ao) : Type := Sigma fun o : aw => (o.shape S.fixed).T
def Tj (hp : Hp) (c : Nat) : Nat := match hp c with
  | some ch => ch.ep
  | none => 0
def nameOf (bd : Bd) (n : Nat) : Nat := match cD bd n with
  | some (some c) => c
  | _ => 0
def ao.nm (S : ao) (bd : Bd) (hp : Hp) (base : Nat) : Nm := fun n => cond (Nat.blt n S.fixed) (nameOf bd n, Tj hp (nameOf bd n)) (base + (n - S.fixed), 0)
def ij (ν : Nm) : (l : List (Nat × CSh)) → CD l → List (Nat × Ch)
  | [], _ => []
  | c :: r, x => ((ν c.1).1, ⟨(ν c.1).2, cW ν c.2 x.1⟩) :: ij ν r x.2
def cw (bd : Bd) (hp : Hp) (fixed : Nat) : List (Nat × CSh) → List (Nat × Ch)
  | [] => []
  | c :: r => cond (Nat.blt c.1 fixed) (cw bd hp fixed r) (match cD bd c.1 with
    | some (some o) => (o, ⟨Tj hp o + 1, .row .u8 []⟩) :: cw bd hp fixed r
    | _ => cw bd hp fixed r)
def Ty.cm : Ty → Bool
  | .list _ => true
  | .prod a b => a.cm || b.cm
  | .arr _ t => t.cm
  | _ => false
def Sh.cm : Sh → Bool
  | .val _ t => t.cm
  | _ => false
def CSh.cm : CSh → Bool
  | .row t => t.cm
  | .frz t => t.cm
  | .cells l => l.any Sh.cm
  | .gone => false
def CSh.JP : CSh → Bool
  | .frz _ => true
  | _ => false
def ao.qC (S : ao) (bd : Bd) (hp : Hp) (base : Nat) (o : aw) : Bool :=
  (!S.bw || !(o.rs.any Sh.cm || o.chunks.any fun c => c.2.cm || (c.2.JP && !Nat.blt c.1 S.fixed))) &&
  ((List.range S.fixed).all (fun k => (match cD bd k with
    | some (some _) => true
    | _ => false) && o.chunks.any fun c => Nat.beq c.1 k) &&
  ((o.chunks.all fun c => S.chunks.all fun c' => !Nat.beq c.1 c'.1 || !Nat.blt c.1 S.fixed || (c.2.JP == c'.2.JP)) &&
  o.chunks.all fun c => !c.2.sD && (Nat.blt c.1 S.fixed || (Nat.blt (c.1 - S.fixed) 64 && (hp (base + (c.1 - S.fixed))).isNone))))
def ao.emit (S : ao) (bd : Bd) (d : Nat) (hp : Hp) (o : aw) (y : (o.shape S.fixed).T) : OT Out :=
  let base := fresh hp d
  let ν := S.nm bd hp base
  let v := oneOf ((indexedN ν o.rs) y.1)
  let u := cw bd hp S.fixed S.chunks ++ ij ν o.chunks y.2
  .guard (S.qC bd hp base o) (.ok (cond o.pan (.pan v u) (.ret ⟨v, u⟩)))
where
  indexedN (ν : Nm) (rs : List Sh) : SlT (indexed 0 rs) → List SV := go ν 0 rs
  go (ν : Nm) : (i : Nat) → (rs : List Sh) → SlT (indexed i rs) → List SV
    | _, [], _ => []
    | i, s :: r, y => Gr ν s y.1 :: go ν (i + 1) r y.2
def ao.aD (S : ao) (pre : S.T → Bool) (F : S.T → OT S.Y) : cv := ⟨S.mod, fun d args hp =>
  match S.inp.prj ⟨args, hp⟩ with
  | none => .fail
  | some x => .guard (pre x) ((F x).bind fun oy => S.emit (S.inp.bd ⟨args, hp⟩) d hp oy.1 oy.2)⟩
def aw.is {fixed : Nat} (o : aw) (y : (o.shape fixed).T) (pan : Bool) (v : SV) (hp : Hp) : Prop :=
  o.pan = pan ∧ (o.shape fixed).prj ⟨YB o.rs.length v, hp⟩ = some y
end Sx
end Go.Proofs.YtohjofabochgfaaGreat

namespace Go.Proofs.YtohjofabochgfaaGreat
namespace Sx
open Go
def Ctx.sV (R : Ctx) (bd : Bd) (b : Nat) : Prop := ∃ n c ch L, cD bd n = some (some c) ∧ R.hp c = some ch ∧ ch.body.mut = true ∧ R.σ c = some L ∧ L.block = b
open Classical in
noncomputable def Ctx.wK (R : Ctx) (bd : Bd) (bw : Bool) (w : World) : Nat → Option Obj := fun b =>
  if R.sV bd b then none else if bw = true then w.heap[b]? else R.F b
open Classical in
noncomputable def Ctx.CQ (R : Ctx) (bd : Bd) (bw : Bool) (w : World) : La := ⟨fun b =>
  if R.sV bd b ∨ bw = true ∨ (∃ o, R.F b = some o) then none else w.heap[b]?, R.U.env⟩
section
variable {R : Ctx} {w : World} (hm : cN R w) {bd : Bd} {bw : Bool}
include hm
theorem vG {b : Nat} (h : R.sV bd b) : R.F b = none ∧ R.U b = none := by
  obtain ⟨n, c, ch, L, h1, h2, h3, h4, rfl⟩ := h
  exact (c8 hm h2 h4).1 h3
theorem JS : ∀ b o, R.F b = some o → R.wK bd bw w b = some o := fun b o h => by
  unfold Ctx.wK
  split
  · rename_i hb
    rw [(vG hm hb).1] at h
    cases h
  · split
    · exact hm.F b o h
    · exact h
theorem JR : ∀ b o, R.wK bd bw w b = some o → w.heap[b]? = some o := fun b o h => by
  unfold Ctx.wK at h
  split at h
  · cases h
  · split at h
    · exact h
    · exact hm.F b o h
theorem Gq : ∀ c ch L, ng bw bd c = true → R.hp c = some ch → R.σ c = some L → R.wK bd bw w L.block = w.heap[L.block]? := fun c ch L h1 h2 h3 => by
  have hb : bw = true := by
    unfold ng at h1
    rw [Bool.and_eq_true] at h1
    exact h1.1
  unfold Ctx.wK
  split
  · rename_i hq
    obtain ⟨n, c', ch', L', k1, k2, k3, k4, k5⟩ := hq
    cases hmu : ch.body.mut
    · obtain ⟨o, ho⟩ := (c8 hm h2 h3).2 hmu
      rw [← k5, ((c8 hm k2 k4).1 k3).1] at ho
      cases ho
    · have := hm.apart c' c ch' ch L' L k2 h2 k3 hmu k4 h3 k5
      rw [this] at k1
      rw [Ef k1] at h1
      cases h1
  · first | rfl | rw [if_pos hb]
omit hm in
theorem JQ : ∀ b o, R.CQ bd bw w b = some o → w.heap[b]? = some o := fun b o h => by
  unfold Ctx.CQ at h
  dsimp only at h
  split at h
  · cases h
  · exact h
omit hm in
theorem agX : ∀ b o, R.wK bd bw w b = some o → R.CQ bd bw w b = none := fun b o h => by
  unfold Ctx.CQ
  dsimp only
  split
  · rfl
  · rename_i hq
    unfold Ctx.wK at h
    rw [if_neg (fun hb => hq (.inl hb)), if_neg (fun hb => hq (.inr (.inl hb)))] at h
    exact absurd (.inr (.inr ⟨o, h⟩)) hq
omit hm in
theorem aaz : ∀ n c ch L, cD bd n = some (some c) → R.hp c = some ch → ch.body.mut = true → R.σ c = some L → R.wK bd bw w L.block = none ∧ R.CQ bd bw w L.block = none := fun n c ch L h1 h2 h3 h4 => by
  have hb : R.sV bd L.block := ⟨n, c, ch, L, h1, h2, h3, h4, rfl⟩
  exact ⟨by unfold Ctx.wK; rw [if_pos hb], by unfold Ctx.CQ; dsimp only; rw [if_pos (.inl hb)]⟩
theorem stays {F₂ : Nat → Option Obj} {U₂ : La} {w' : World} (hF : ∀ b o, R.wK bd bw w b = some o → F₂ b = some o) (hU : U₂ = R.CQ bd bw w) (h1 : ∀ b o, F₂ b = some o → w'.heap[b]? = some o) (h2 : ∀ b o, U₂ b = some o → w'.heap[b]? = some o) :
    ∀ b, b < w.heap.size → ¬ R.sV bd b → w'.heap[b]? = w.heap[b]? := fun b hb hn => by
  have hs : w.heap[b]? = some w.heap[b] := by simp [hb]
  by_cases hbo : bw = true
  · have : R.wK bd bw w b = some w.heap[b] := by
      unfold Ctx.wK
      rw [if_neg hn, if_pos hbo, hs]
    rw [h1 _ _ (hF _ _ this), hs]
  · by_cases hRF : ∃ o, R.F b = some o
    · obtain ⟨o, ho⟩ := hRF
      have := hm.F b o ho
      rw [h1 _ _ (hF _ _ (JS hm b o ho)), this]
    · have : R.CQ bd bw w b = some w.heap[b] := by
        unfold Ctx.CQ
        dsimp only
        rw [if_neg (by rintro (h | h | h); exact hn h; exact hbo h; exact hRF h), hs]
      rw [← hU] at this
      rw [h2 _ _ this, hs]
end
end Sx
end Go.Proofs.YtohjofabochgfaaGreat

namespace Go.Proofs.YtohjofabochgfaaGreat
namespace Sx
open Go
structure Hm (N R : Ctx) (ν : Nm) (lists : Bool) : Prop where
  hp : ∀ n ch, N.hp n = some ch → ch.ep = 0 ∧ ∃ ch', R.hp (ν n).1 = some ch' ∧ ch'.ep = (ν n).2 ∧ ch'.body.shape = ch.body.shape ∧ R.σ (ν n).1 = N.σ n
  F : lists = true → ∀ b o, N.F b = some o → R.F b = some o
theorem o4 {F F' : Nat → Option Obj} : ∀ (t : Ty) (_ : t.cm = false) (x : t.T) (cs : List Value), Rep F t x cs → Rep F' t x cs
  | .bool, _, _, _, h => h
  | .u64, _, _, _, h => h
  | .u8, _, _, _, h => h
  | .int, _, _, _, h => h
  | .str, _, _, _, h => h
  | .elem, _, _, _, h => h
  | .prod a b, hp, x, cs, h => by
    simp only [Ty.cm, Bool.or_eq_false_iff] at hp
    exact ⟨h.1, o4 a hp.1 _ _ h.2.1, o4 b hp.2 _ _ h.2.2⟩
  | .arr n t, hp, x, cs, h => ⟨h.1, h.2.1, fun i hi => o4 t hp _ _ (h.2.2 i hi)⟩
def SV.still : SV → Bool
  | .bool _ | .u64 _ | .u8 _ | .int _ | .str _ | .lst .. => true
  | _ => false
theorem HR {R R' : Ctx} (hF : ∀ b o, R.F b = some o → R'.F b = some o) : ∀ {x : SV} {v : Value}, x.still = true → SV.rel R x v → SV.rel R' x v := by
  intro x v hf h
  cases x <;> first | (cases hf; done) | (simp only [SV.rel] at h ⊢; first | exact h | exact bO hF _ _ _ h)
theorem C5 {R R' : Ctx} (hF : ∀ b o, R.F b = some o → R'.F b = some o) : ∀ {l : List SV} {vs : List Value}, l.all SV.still = true → SV.bH R l vs → SV.bH R' l vs
  | [], vs, _, h => by simpa only [SV.bH] using h
  | x :: l, vs, hf, h => by
    simp only [List.all_cons, Bool.and_eq_true] at hf
    simp only [SV.bH] at h ⊢
    obtain ⟨v, r, h1, h2, h3⟩ := h
    exact ⟨v, r, h1, HR hF hf.1 h2, C5 hF hf.2 h3⟩
theorem gj : ∀ (t : Ty) (x : t.T), (unpack t x).all SV.still = true
  | .bool, _ => rfl
  | .u64, _ => rfl
  | .u8, _ => rfl
  | .int, _ => rfl
  | .str, _ => rfl
  | .elem, _ => rfl
  | .prod a b, x => by simp only [unpack, List.all_append, gj a, gj b, Bool.and_self]
  | .arr n t, x => by
    simp only [unpack, List.all_flatMap, List.all_eq_true]
    intro i _
    simpa [List.all_eq_true] using gj t _
  | .list t, _ => rfl
theorem dR : ∀ {t : Ty}, t.cm = false → t.plain = true
  | .bool, _ => rfl
  | .u64, _ => rfl
  | .u8, _ => rfl
  | .int, _ => rfl
  | .str, _ => rfl
  | .elem, _ => rfl
  | .prod a b, h => by
    simp only [Ty.cm, Bool.or_eq_false_iff] at h
    simp only [Ty.plain, dR h.1, dR h.2, Bool.and_self]
  | .arr n t, h => dR (t := t) h
section
variable {N R : Ctx} {ν : Nm} {lists : Bool} (hr : Hm N R ν lists)
include hr
theorem Nb {n : Nat} {v : Value} (h : N.own n 0 v) : R.own (ν n).1 (ν n).2 v := by
  obtain ⟨ch, hc, _, h⟩ := h
  obtain ⟨he, ch', k1, k2, k3, k4⟩ := hr.hp n ch hc
  obtain ⟨ch2, hc2, _, h2⟩ := h he.symm
  rw [hc] at hc2
  cases hc2
  obtain ⟨h5, h6, ad, cap, h7, h8, h9⟩ := h2 he.symm
  refine ⟨ch', k1, by omega, fun _ => ⟨ch', k1, by omega, fun _ => ?_⟩⟩
  rw [k4, k3]
  exact ⟨h5, h6, ad, cap, h7, h8, h9⟩
theorem p9 {n i off : Nat} {v : Value} (h : N.ptr n 0 i off v) : R.ptr (ν n).1 (ν n).2 i off v := by
  obtain ⟨ch, hc, _, h⟩ := h
  obtain ⟨he, ch', k1, k2, k3, k4⟩ := hr.hp n ch hc
  obtain ⟨L, h1, h2⟩ := h he.symm
  exact ⟨ch', k1, by omega, fun _ => ⟨L, by rw [k4]; exact h1, by rw [k3]; exact h2⟩⟩
theorem wA : ∀ (ns : List Nat) (us : List Value), SV.bH N (ns.map fun n => .ptr n 0 0 0) us → SV.bH R (ns.map fun n => .ptr (ν n).1 (ν n).2 0 0) us
  | [], us, h => h
  | n :: ns, us, h => by
    simp only [List.map_cons, SV.bH, SV.rel] at h ⊢
    obtain ⟨v, us', rfl, h1, h2⟩ := h
    exact ⟨v, us', rfl, ⟨h1.1, p9 hr h1.2⟩, wA ns us' h2⟩
theorem CF {t : Ty} (hl : lists = true ∨ t.cm = false) {x : t.T} {us : List Value} (h : SV.bH N (unpack t x) us) : SV.bH R (unpack t x) us := by
  rcases hl with hl | hl
  · exact C5 (hr.F hl) (gj t x) h
  · exact Kb (il t (dR hl) x) h
theorem qj {s : Sh} (hl : lists = true ∨ s.cm = false) {y : s.T} {us : List Value} (h : SV.bH N (m7 s y) us) : SV.bH R (vn ν s y) us := by
  cases s <;> simp only [m7, vn] at h ⊢
  case val b t => exact CF hr hl h
  case own n =>
    obtain ⟨v, rfl, hv⟩ := b9 h
    simp only [SV.rel] at hv
    exact aR (by simp only [SV.rel]; exact ⟨hv.1, Nb hr hv.2⟩)
  case ptr n i off =>
    obtain ⟨v, rfl, hv⟩ := b9 h
    simp only [SV.rel] at hv
    exact aR (by simp only [SV.rel]; exact ⟨hv.1, p9 hr hv.2⟩)
  case fn f ns =>
    obtain ⟨v, rfl, hv⟩ := b9 h
    simp only [SV.rel] at hv
    obtain ⟨l1, l2, rfl, h3, h4⟩ := hv
    exact aR (by simp only [SV.rel]; exact ⟨l1, l2, rfl, by simpa only [SV.bH] using h3, wA hr ns l2 h4⟩)
  case ifp t n =>
    obtain ⟨v, rfl, hv⟩ := b9 h
    simp only [SV.rel] at hv
    obtain ⟨y, rfl, hy⟩ := hv
    exact aR (by simp only [SV.rel]; exact ⟨y, rfl, hy.1, p9 hr hy.2⟩)
  all_goals (
    obtain ⟨v, rfl, hv⟩ := b9 h
    simp only [SV.rel] at hv
    exact aR (by simp only [SV.rel]; exact hv))
omit hr in
theorem CR {s : Sh} {y : s.T} : (vn ν s y).length = (m7 s y).length := by
  cases s <;> rfl
theorem HT {s : Sh} (hl : lists = true ∨ s.cm = false) {y : s.T} {v : Value} (h : SV.rel N (m6 s y) v) : SV.rel R (Gr ν s y) v := by
  unfold m6 at h
  unfold Gr
  unfold mg at h ⊢
  cases ha : s.agg <;> rw [ha] at h
  · simp only [Bool.false_eq_true, if_false] at h ⊢
    cases s
    case val b t =>
      simp only [m7, vn] at h ⊢
      cases hc : unpack t y with
      | nil => simp [SV.rel]
      | cons u l =>
        rw [hc] at h
        rcases hl with hl | hl
        · have := gj t y
          rw [hc] at this
          simp only [List.all_cons, Bool.and_eq_true] at this
          exact HR (hr.F hl) this.1 h
        · have := il t (dR hl) y
          rw [hc] at this
          simp only [List.all_cons, Bool.and_eq_true] at this
          exact S4 this.1 h
    all_goals (
      have h1 := qj (y := y) hr hl (aR h)
      obtain ⟨v', he, hv⟩ := b9 h1
      cases he
      exact hv)
  · simp only [if_true, SV.rel] at h ⊢
    obtain ⟨vs, h1, h2, h3⟩ := h
    exact ⟨vs, h1, qj hr hl h2, h3⟩
end
end Sx
end Go.Proofs.YtohjofabochgfaaGreat

namespace Go.Proofs.YtohjofabochgfaaGreat
namespace Sx
open Go
theorem OT.run_bind {α β : Type} {f : α → OT β} : ∀ {t : OT α} {b : β}, (t.bind f).run = some b → ∃ a, t.run = some a ∧ (f a).run = some b
  | .ok a, b, h => ⟨a, rfl, h⟩
  | .br c x y, b, h => by
    cases c
    · exact OT.run_bind (t := y) h
    · exact OT.run_bind (t := x) h
  | .fail, b, h => by cases h
theorem mM {m : Nat} : ∀ (u : List (Nat × Ch)) {hp : Hp}, m ∈ bc u → ∃ ch, (m, ch) ∈ u ∧ eK hp u m = some ch
  | [], _, h => by simp [bc] at h
  | (c, ch) :: r, hp, h => by
    by_cases h2 : m ∈ bc r
    · obtain ⟨ch', h3, h4⟩ := mM r (hp := fun n => if n = c then some ch else hp n) h2
      exact ⟨ch', by simp [h3], h4⟩
    · have h1 : m = c := by
        simp only [bc, List.map_cons, List.mem_cons] at h
        exact h.resolve_right h2
      subst h1
      refine ⟨ch, by simp, ?_⟩
      simp only [eK]
      rw [cS r h2]
      simp
theorem rn {ν : Nm} {bd : Bd} {ok : Nat → Bool} {hp : Hp} : ∀ {l : List (Nat × CSh)} {x : CD l} {c : Nat} {ch : Ch}, dg bd ok hp l = some x → (c, ch) ∈ ij ν l x →
    ∃ n s y, (n, s) ∈ l ∧ c = (ν n).1 ∧ gR bd ok hp n s = some y ∧ ch = ⟨(ν n).2, cW ν s y⟩
  | [], _, _, _, _, h => by cases h
  | q :: r, x, c, ch, hp, h => by
    obtain ⟨h1, h2⟩ := bn hp
    simp only [ij, List.mem_cons] at h
    rcases h with h | h
    · cases h
      exact ⟨q.1, q.2, x.1, by simp, rfl, h1, rfl⟩
    · obtain ⟨n, s, y, k1, k2⟩ := rn h2 h
      exact ⟨n, s, y, by simp [k1], k2⟩
theorem k9 {ν : Nm} : ∀ {l : List (Nat × CSh)} {x : CD l} {c : Nat}, c ∈ bc (ij ν l x) ↔ ∃ n s, (n, s) ∈ l ∧ c = (ν n).1
  | [], _, _ => by simp [ij, bc]
  | q :: r, x, c => by
    have ih := k9 (ν := ν) (l := r) (x := x.2) (c := c)
    unfold bc at ih ⊢
    simp only [ij, List.map_cons, List.mem_cons]
    constructor
    · rintro (h | h)
      · exact ⟨q.1, q.2, .inl rfl, h⟩
      · obtain ⟨n, s, h1, h2⟩ := ih.1 h
        exact ⟨n, s, .inr h1, h2⟩
    · rintro ⟨n, s, h1 | h1, h2⟩
      · left; rw [← h1] at *; exact h2
      · exact .inr (ih.2 ⟨n, s, h1, h2⟩)
theorem ik {bd : Bd} {hp : Hp} {fixed : Nat} : ∀ {l : List (Nat × CSh)} {c : Nat} {ch : Ch}, (c, ch) ∈ cw bd hp fixed l → (∃ n, cD bd n = some (some c) ∧ fixed ≤ n) ∧ ch = ⟨Tj hp c + 1, .row .u8 []⟩
  | [], _, _, h => by cases h
  | q :: r, c, ch, h => by
    simp only [cw] at h
    cases hb : Nat.blt q.1 fixed
    · rw [hb] at h
      simp only [cond_false] at h
      split at h
      · rename_i o ho
        simp only [List.mem_cons] at h
        rcases h with h | h
        · cases h
          have : ¬ q.1 < fixed := fun hlt => by rw [KQ hlt] at hb; cases hb
          exact ⟨⟨q.1, ho, by omega⟩, rfl⟩
        · exact ik h
      · exact ik h
    · rw [hb] at h
      exact ik (by simpa using h)
theorem yI {bd : Bd} {hp : Hp} {fixed : Nat} : ∀ {l : List (Nat × CSh)} {n c : Nat} {s : CSh}, (n, s) ∈ l → cD bd n = some (some c) → fixed ≤ n → c ∈ bc (cw bd hp fixed l)
  | [], _, _, _, h, _, _ => by cases h
  | q :: r, n, c, s, h, hb, hn => by
    simp only [cw]
    rcases List.mem_cons.1 h with h | h
    · subst h
      have : Nat.blt n fixed = false := by
        cases hq : Nat.blt n fixed
        · rfl
        · have := da hq; omega
      unfold bc
      simp only [this, cond_false, hb, List.map_cons, List.mem_cons]
      exact .inl trivial
    · have ih := yI (hp := hp) h hb hn
      cases Nat.blt q.1 fixed
      · simp only [cond_false]
        split
        · unfold bc at ih ⊢
          simp only [List.map_cons, List.mem_cons]
          exact .inr ih
        · exact ih
      · exact ih
theorem eP : ∀ (u v : List (Nat × Ch)) {hp : Hp}, eK hp (u ++ v) = eK (eK hp u) v
  | [], _, _ => rfl
  | (c, ch) :: r, v, hp => eP r v
theorem aan {u : List (Nat × Ch)} {c : Nat} {ch : Ch} (h : (c, ch) ∈ u) : c ∈ bc u := List.mem_map.2 ⟨_, h, rfl⟩
theorem fA : ∀ {l : List (Nat × CSh)}, distinct (l.map (·.1)) = true → ∀ {n : Nat} {s s' : CSh}, (n, s) ∈ l → (n, s') ∈ l → s = s'
  | [], _, _, _, _, h, _ => by cases h
  | q :: r, hd, n, s, s', h, h' => by
    simp only [List.map_cons, distinct, Bool.and_eq_true, Bool.not_eq_true'] at hd
    have no : ∀ s, (n, s) ∈ r → q.1 ≠ n := fun s hs e => by
      have := hd.1
      rw [List.any_eq_false] at this
      exact this n (List.mem_map.2 ⟨_, hs, rfl⟩) (by rw [e]; exact Nat.beq_refl n)
    rcases List.mem_cons.1 h with h | h <;> rcases List.mem_cons.1 h' with h' | h'
    · rw [← h'] at h; cases h; rfl
    · exact absurd (by rw [← h]) (no s' h')
    · exact absurd (by rw [← h']) (no s h)
    · exact fA hd.2 h h'
theorem gH {ν : Nm} : ∀ {l : List Sh} {x : ShT l}, (kE ν l x).length = (hI l x).length
  | [], _ => rfl
  | s :: r, x => by simp only [kE, hI, List.length_append, CR, gH]
theorem m9 {ν : Nm} {s : CSh} {y : s.T} : (cW ν s y).shape = (bu s y).shape := by
  cases s <;> simp only [cW, bu, Chunk.shape]
  case cells l =>
    have := gH (ν := ν) (l := l) (x := y)
    rw [this]
theorem hC {ν : Nm} {s : CSh} {y : s.T} : (cW ν s y).mut = (bu s y).mut := by
  cases s <;> rfl
theorem JT {s : CSh} {y : s.T} : (bu s y).mut = !s.JP := by
  cases s <;> rfl
end Sx
end Go.Proofs.YtohjofabochgfaaGreat

namespace Go.Proofs.YtohjofabochgfaaGreat
namespace Sx
open Go
section
variable {R : Ctx} {w w' : World} {S : ao} {args : List SV} {bd : Bd} {xc : CD S.chunks} {N N2 : Ctx} {o : aw} {yc : CD o.chunks} {base : Nat}
def Ctx.amd (N : Ctx) (k : Nat) : Ctx := { N with hp := fun n => cond (Nat.blt n k) (N.hp n) none }
structure ri (R : Ctx) (w w' : World) (S : ao) (args : List SV) (bd : Bd) (xc : CD S.chunks) (N2 : Ctx) (o : aw) (yc : CD o.chunks) (base : Nat) : Prop where
  hm : cN R w
  ok : S.inp.CE ⟨args, R.hp⟩ bd = true
  hx : dg bd (ng S.bw bd) R.hp S.chunks = some xc
  ext : ((R.named (R.wK bd S.bw w) (R.CQ bd S.bw w) bd (dc S.chunks xc)).amd S.fixed).Ext N2
  hm2 : cN N2 w'
  hp2 : N2.hp = dc o.chunks yc
  amh : ∃ bd2 ok2 hp2, dg bd2 ok2 hp2 o.chunks = some yc
  akj : distinct (o.chunks.map (·.1)) = true
  qC : S.qC bd R.hp base o = true
open Classical in
noncomputable def Ctx.fM (R : Ctx) (bd : Bd) (w : World) (N2 : Ctx) : Nat → Option Obj := fun b =>
  if b < w.heap.size ∧ ¬ R.sV bd b then R.F b else N2.F b
open Classical in
noncomputable def Ctx.cY (R : Ctx) (bd : Bd) (w : World) (S : ao) (N2 : Ctx) (o : aw) (yc : CD o.chunks) (base : Nat) : Ctx :=
  ⟨R.fM bd w N2, R.U, fun c => match o.chunks.find? (fun q => Nat.beq (S.nm bd R.hp base q.1).1 c) with
    | some q => N2.σ q.1
    | none => if c ∈ bc (cw bd R.hp S.fixed S.chunks) then none else R.σ c,
   eK R.hp (cw bd R.hp S.fixed S.chunks ++ ij (S.nm bd R.hp base) o.chunks yc)⟩
variable (H : ri R w w' S args bd xc N2 o yc base)
include H
theorem ri.inF : ∀ b o', R.wK bd S.bw w b = some o' → N2.F b = some o' := fun b o' h => H.ext.F b o' h
theorem ri.inU : N2.U = R.CQ bd S.bw w := H.ext.U
theorem ri.old : ∀ b, b < w.heap.size → ¬ R.sV bd b → w'.heap[b]? = w.heap[b]? :=
  stays H.hm H.inF H.inU H.hm2.F H.hm2.U
theorem ama {b : Nat} {o' : Obj} (h : R.F b = some o') : b < w.heap.size ∧ ¬ R.sV bd b :=
  ⟨(Array.getElem?_eq_some_iff.1 (H.hm.F b o' h)).1, fun hb => by rw [(vG H.hm hb).1] at h; cases h⟩
theorem s7 : ∀ b o', R.F b = some o' → R.fM bd w N2 b = some o' := fun b o' h => by
  unfold Ctx.fM
  rw [if_pos (ama H h)]
  exact h
theorem Bt : ∀ b o', R.fM bd w N2 b = some o' → w'.heap[b]? = some o' := fun b o' h => by
  unfold Ctx.fM at h
  split at h
  · rename_i hb
    rw [H.old b hb.1 hb.2]; exact H.hm.F b o' h
  · exact H.hm2.F b o' h
theorem Bu (hb : S.bw = false) : ∀ b o', N2.F b = some o' → R.fM bd w N2 b = some o' := fun b o' h => by
  unfold Ctx.fM
  split
  · rename_i hq
    cases hR : R.F b with
    | some o2 =>
      have h1 := H.hm.F b o2 hR
      rw [← H.old b hq.1 hq.2, H.hm2.F b o' h] at h1
      exact h1.symm
    | none =>
      exfalso
      have h2 := H.hm2.FU b o' h
      rw [H.inU] at h2
      unfold Ctx.CQ at h2
      dsimp only at h2
      rw [if_neg (by rintro (h | h | ⟨o2, h⟩); exact hq.2 h; rw [hb] at h; cases h; rw [hR] at h; cases h)] at h2
      simp [hq.1] at h2
  · exact h
theorem Bs {b : Nat} (hF : N2.F b = none) (hU : N2.U b = none) : R.F b = none ∧ R.U b = none ∧ R.fM bd w N2 b = none ∧ (w.heap.size ≤ b ∨ R.sV bd b) := by
  by_cases hb : b < w.heap.size
  · have hs : w.heap[b]? = some w.heap[b] := by simp [hb]
    have hbd : R.sV bd b := Classical.byContradiction fun hn => by
      have h1 : R.wK bd S.bw w b = none := by
        cases hq : R.wK bd S.bw w b with
        | none => rfl
        | some o' => rw [H.inF b o' hq] at hF; cases hF
      rw [H.inU] at hU
      unfold Ctx.CQ at hU
      dsimp only at hU
      unfold Ctx.wK at h1
      rw [if_neg hn] at h1
      by_cases hbo : S.bw = true
      · rw [if_pos hbo, hs] at h1; cases h1
      · rw [if_neg hbo] at h1
        rw [if_neg (by rintro (h | h | ⟨o2, h⟩); exact hn h; exact hbo h; rw [h1] at h; cases h), hs] at hU
        cases hU
    refine ⟨(vG H.hm hbd).1, (vG H.hm hbd).2, ?_, .inr hbd⟩
    unfold Ctx.fM
    rw [if_neg (fun h => h.2 hbd)]
    exact hF
  · refine ⟨?_, ?_, ?_, .inl (by omega)⟩
    · cases hR : R.F b with
      | none => rfl
      | some o' => exact absurd (ama H hR).1 hb
    · cases hR : R.U b with
      | none => rfl
      | some o' => exact absurd (Array.getElem?_eq_some_iff.1 (H.hm.U b o' hR)).1 hb
    · unfold Ctx.fM
      rw [if_neg (fun h => hb h.1)]
      exact hF
theorem lJ : S.bw = false ∨ (o.rs.any Sh.cm = false ∧ ∀ q ∈ o.chunks, q.2.cm = false ∧ (q.2.JP = true → q.1 < S.fixed)) := by
  have h := H.qC
  unfold ao.qC at h
  simp only [Bool.and_eq_true] at h
  have h1 := h.1
  cases hb : S.bw
  · exact .inl rfl
  · right
    rw [hb] at h1
    simp only [Bool.not_true, Bool.false_or, Bool.not_eq_true', Bool.or_eq_false_iff] at h1
    refine ⟨h1.1, fun q hq => ?_⟩
    have h2 := List.any_eq_false.1 h1.2 q hq
    simp only [Bool.or_eq_true, Bool.and_eq_true, Bool.not_eq_true', not_or, not_and] at h2
    refine ⟨by simpa using h2.1, fun hf => ?_⟩
    have := h2.2 hf
    exact da (by simpa using this)
theorem Ba {k : Nat} (hk : k < S.fixed) : (∃ c, cD bd k = some (some c)) ∧ ∃ s, (k, s) ∈ o.chunks := by
  have h := H.qC
  unfold ao.qC at h
  simp only [Bool.and_eq_true, List.all_eq_true] at h
  have h1 := h.2.1 k (by simpa using hk)
  constructor
  · have h2 := h1.1
    split at h2
    · rename_i c hc; exact ⟨c, hc⟩
    · cases h2
  · obtain ⟨q, hq, he⟩ := List.any_eq_true.1 h1.2
    have := Nat.eq_of_beq_eq_true he
    subst this
    exact ⟨q.2, hq⟩
theorem abq {q : Nat × CSh} (hq : q ∈ o.chunks) {q' : Nat × CSh} (hq' : q' ∈ S.chunks) (he : q.1 = q'.1) (hf : q.1 < S.fixed) : q.2.JP = q'.2.JP := by
  have h := H.qC
  unfold ao.qC at h
  simp only [Bool.and_eq_true, List.all_eq_true] at h
  have h1 := h.2.2.1 q hq q' hq'
  simp only [he, Nat.beq_refl, Bool.not_true, Bool.false_or] at h1
  rw [he] at hf
  rw [KQ hf] at h1
  simpa using h1
theorem nx {q : Nat × CSh} (hq : q ∈ o.chunks) : q.2.sD = false ∧ (q.1 < S.fixed ∨ (q.1 - S.fixed < 64 ∧ R.hp (base + (q.1 - S.fixed)) = none)) := by
  have h := H.qC
  unfold ao.qC at h
  simp only [Bool.and_eq_true, List.all_eq_true] at h
  have h1 := h.2.2.2 q hq
  simp only [Bool.or_eq_true, Bool.and_eq_true, Bool.not_eq_true'] at h1
  refine ⟨h1.1, ?_⟩
  rcases h1.2 with h2 | h2
  · exact .inl (da h2)
  · refine .inr ⟨da h2.1, ?_⟩
    have := h2.2
    cases hq : R.hp (base + (q.1 - S.fixed)) with
    | none => rfl
    | some c => rw [hq] at this; cases this
end
end Sx
end Go.Proofs.YtohjofabochgfaaGreat

namespace Go.Proofs.YtohjofabochgfaaGreat
namespace Sx
open Go
section
variable {R : Ctx} {w w' : World} {S : ao} {args : List SV} {bd : Bd} {xc : CD S.chunks} {N N2 : Ctx} {o : aw} {yc : CD o.chunks} {base : Nat}
variable (H : ri R w w' S args bd xc N2 o yc base)
include H
theorem DW {n : Nat} {s : CSh} (h : (n, s) ∈ o.chunks) : ∃ y : s.T, N2.hp n = some ⟨0, bu s y⟩ ∧ ((S.nm bd R.hp base n).1, (⟨(S.nm bd R.hp base n).2, cW (S.nm bd R.hp base) s y⟩ : Ch)) ∈ ij (S.nm bd R.hp base) o.chunks yc := by
  obtain ⟨bd2, ok2, hp2, hp⟩ := H.amh
  obtain ⟨ch, hch⟩ := m8 (x := yc) (n := n) ⟨s, h⟩
  obtain ⟨s', y, h1, h2, h3⟩ := dk hp hch
  obtain rfl := fA H.akj h h1
  have hg := (nx H h).1
  have hep : s.ep = 0 := by cases s <;> first | rfl | (cases hg; done)
  refine ⟨y, by rw [H.hp2, hch, h3, hep], ?_⟩
  have : ∀ {l : List (Nat × CSh)} {x : CD l}, dg bd2 ok2 hp2 l = some x → (n, s) ∈ l → ((S.nm bd R.hp base n).1, (⟨(S.nm bd R.hp base n).2, cW (S.nm bd R.hp base) s y⟩ : Ch)) ∈ ij (S.nm bd R.hp base) l x := by
    intro l
    induction l with
    | nil => intro x _ hm; cases hm
    | cons q r ih =>
      intro x hp hm
      obtain ⟨p1, p2⟩ := bn hp
      simp only [ij, List.mem_cons]
      rcases List.mem_cons.1 hm with he | he
      · subst he
        left
        have : x.1 = y := by
          have := p1.symm.trans h2
          exact Option.some.inj this
        rw [this]
      · exact .inr (ih p2 he)
  exact this hp h
theorem T5 {c : Nat} {ch : Ch} (h : (c, ch) ∈ ij (S.nm bd R.hp base) o.chunks yc) : ∃ n s, ∃ y : s.T, (n, s) ∈ o.chunks ∧ c = (S.nm bd R.hp base n).1 ∧ N2.hp n = some ⟨0, bu s y⟩ ∧ ch = ⟨(S.nm bd R.hp base n).2, cW (S.nm bd R.hp base) s y⟩ := by
  obtain ⟨bd2, ok2, hp2, hp⟩ := H.amh
  obtain ⟨n, s, y, h1, h2, h3, h4⟩ := rn hp h
  refine ⟨n, s, y, h1, h2, ?_, h4⟩
  obtain ⟨ch, hch⟩ := m8 (x := yc) (n := n) ⟨s, h1⟩
  obtain ⟨s', y', k1, k2, k3⟩ := dk hp hch
  obtain rfl := fA H.akj h1 k1
  have : y = y' := Option.some.inj (h3.symm.trans k2)
  subst this
  have hg := (nx H h1).1
  have hep : s.ep = 0 := by cases s <;> first | rfl | (cases hg; done)
  rw [H.hp2, hch, k3, hep]
omit H in
theorem Z0 {n : Nat} (h : n < S.fixed) : S.nm bd R.hp base n = (nameOf bd n, Tj R.hp (nameOf bd n)) := by
  unfold ao.nm; rw [KQ h]; rfl
omit H in
theorem aft {n : Nat} (h : S.fixed ≤ n) : S.nm bd R.hp base n = (base + (n - S.fixed), 0) := by
  unfold ao.nm
  have : Nat.blt n S.fixed = false := by
    cases hq : Nat.blt n S.fixed
    · rfl
    · have := da hq; omega
  rw [this]; rfl
theorem je {k : Nat} (hk : k < S.fixed) : ∃ c ch, ∃ ch2 : Ch, cD bd k = some (some c) ∧ nameOf bd k = c ∧ R.hp c = some ch ∧ Tj R.hp c = ch.ep ∧ N2.hp k = some ch2 ∧ ch2.ep = 0 ∧ ch2.body.shape = ch.body.shape ∧ N2.σ k = R.σ c ∧
    (∃ cs, (k, cs) ∈ S.chunks ∧ (!cs.JP) = ch.body.mut) := by
  obtain ⟨⟨c, hb⟩, s, hs⟩ := Ba H hk
  obtain ⟨cs, y, h1, h2⟩ := Hg (s := S.inp) (st := ⟨args, R.hp⟩) H.ok H.hx hb
  simp only [gR, hb] at h1
  split at h1
  · rename_i ch hch
    obtain ⟨y2, g1, _⟩ := DW H hs
    obtain ⟨ch2, e1, e2, e3⟩ := H.ext.ch k ⟨0, bu cs y⟩ (by
      show cond (Nat.blt k S.fixed) (dc S.chunks xc k) none = _
      rw [KQ hk]; exact h2)
    rw [g1] at e1
    cases e1
    have e4 := e3 rfl
    refine ⟨c, ch, _, hb, by simp only [nameOf, hb], hch, by simp only [Tj, show R.hp c = some ch from hch], g1, rfl, e4.1.trans (po h1), ?_, ?_⟩
    · rw [e4.2]; simp only [Ctx.amd, Ctx.named, hb]
    · obtain ⟨s3, y3, k1, k2, k3⟩ := dk H.hx h2
      simp only [gR, hb, show R.hp c = some ch from hch] at k2
      refine ⟨s3, k1, ?_⟩
      rw [← wC k2, JT]
  · cases h1
theorem agS {n m : Nat} {s s' : CSh} (hn : (n, s) ∈ o.chunks) (hm : (m, s') ∈ o.chunks) (h : (S.nm bd R.hp base n).1 = (S.nm bd R.hp base m).1) : n = m := by
  have half : ∀ {a b : Nat} {t t' : CSh}, (a, t) ∈ o.chunks → (b, t') ∈ o.chunks → a < S.fixed → S.fixed ≤ b → (S.nm bd R.hp base a).1 = (S.nm bd R.hp base b).1 → False := fun {a b t t'} h1 h2 h3 h4 h5 => by
    rw [Z0 h3, aft h4] at h5
    obtain ⟨c, ch, _, g1, g2, g3, _⟩ := je H h3
    rcases (nx H h2).2 with hq | hq
    · have : b < S.fixed := hq
      omega
    · simp only at h5
      rw [← h5, g2, g3] at hq
      cases hq.2
  rcases Nat.lt_or_ge n S.fixed with h1 | h1 <;> rcases Nat.lt_or_ge m S.fixed with h2 | h2
  · rw [Z0 h1, Z0 h2] at h
    obtain ⟨c, _, _, g1, g2, _⟩ := je H h1
    obtain ⟨c', _, _, g1', g2', _⟩ := je H h2
    have hcc : c = c' := by rw [← g2, ← g2']; exact h
    have hok := H.ok
    unfold Shape.CE at hok
    simp only [Bool.and_eq_true, List.all_eq_true, List.any_eq_true] at hok
    obtain ⟨p, hp, hpe⟩ := hok.1.2 _ (ib g1)
    obtain ⟨p', hp', hpe'⟩ := hok.1.2 _ (ib g1')
    have e1 := Nat.eq_of_beq_eq_true hpe
    have e2 := Nat.eq_of_beq_eq_true hpe'
    have h3 := hok.1.1.2 p hp p' hp'
    rw [e1, e2] at h3
    simp only at h3
    rw [g1, g1', hcc] at h3
    simp only [Nat.beq_refl, Bool.not_true, Bool.or_false] at h3
    exact Nat.eq_of_beq_eq_true h3
  · exact (half hn hm h1 h2 h).elim
  · exact (half hm hn h2 h1 h.symm).elim
  · rw [aft h1, aft h2] at h
    simp only at h
    omega
theorem Fm {n : Nat} {s : CSh} (h : (n, s) ∈ o.chunks) : (R.cY bd w S N2 o yc base).σ (S.nm bd R.hp base n).1 = N2.σ n := by
  show (match o.chunks.find? (fun q => Nat.beq (S.nm bd R.hp base q.1).1 (S.nm bd R.hp base n).1) with | some q => N2.σ q.1 | none => _) = _
  cases hf : o.chunks.find? (fun q => Nat.beq (S.nm bd R.hp base q.1).1 (S.nm bd R.hp base n).1) with
  | none =>
    have := List.find?_eq_none.1 hf (n, s) h
    simp at this
  | some q =>
    have h1 := List.find?_some hf
    have h2 := List.mem_of_find?_eq_some hf
    have h3 : q.1 = n := agS H (s := q.2) (s' := s) h2 h (Nat.eq_of_beq_eq_true h1)
    simp only [h3]
omit H in
theorem HW {c : Nat} (h : c ∉ bc (ij (S.nm bd R.hp base) o.chunks yc)) : (R.cY bd w S N2 o yc base).σ c = (open Classical in if c ∈ bc (cw bd R.hp S.fixed S.chunks) then none else R.σ c) := by
  show (match o.chunks.find? (fun q => Nat.beq (S.nm bd R.hp base q.1).1 c) with | some q => N2.σ q.1 | none => _) = _
  cases hf : o.chunks.find? (fun q => Nat.beq (S.nm bd R.hp base q.1).1 c) with
  | none => rfl
  | some q =>
    exfalso
    have h1 := Nat.eq_of_beq_eq_true (List.find?_some (p := fun q : Nat × CSh => Nat.beq (S.nm bd R.hp base q.1).1 c) hf)
    have h2 := List.mem_of_find?_eq_some hf
    exact h (k9.2 ⟨q.1, q.2, h2, h1.symm⟩)
theorem Gt {c : Nat} {ch : Ch} (h : (R.cY bd w S N2 o yc base).hp c = some ch) :
    (∃ n s, ∃ y : s.T, (n, s) ∈ o.chunks ∧ c = (S.nm bd R.hp base n).1 ∧ N2.hp n = some ⟨0, bu s y⟩ ∧ ch = ⟨(S.nm bd R.hp base n).2, cW (S.nm bd R.hp base) s y⟩ ∧ (R.cY bd w S N2 o yc base).σ c = N2.σ n) ∨
    (ch = ⟨Tj R.hp c + 1, .row .u8 []⟩ ∧ (R.cY bd w S N2 o yc base).σ c = none) ∨
    (c ∉ bc (ij (S.nm bd R.hp base) o.chunks yc) ∧ c ∉ bc (cw bd R.hp S.fixed S.chunks) ∧ R.hp c = some ch ∧ (R.cY bd w S N2 o yc base).σ c = R.σ c) := by
  have hh : eK (eK R.hp (cw bd R.hp S.fixed S.chunks)) (ij (S.nm bd R.hp base) o.chunks yc) c = some ch := by
    rw [← eP]; exact h
  by_cases h1 : c ∈ bc (ij (S.nm bd R.hp base) o.chunks yc)
  · obtain ⟨ch', h2, h3⟩ := mM _ (hp := eK R.hp (cw bd R.hp S.fixed S.chunks)) h1
    rw [h3] at hh
    cases hh
    obtain ⟨n, s, y, k1, k2, k3, k4⟩ := T5 H h2
    exact .inl ⟨n, s, y, k1, k2, k3, k4, by rw [k2]; exact Fm H k1⟩
  · rw [cS _ h1] at hh
    have hs := HW (w := w) (N2 := N2) h1
    by_cases h2 : c ∈ bc (cw bd R.hp S.fixed S.chunks)
    · obtain ⟨ch', h3, h4⟩ := mM _ (hp := R.hp) h2
      rw [h4] at hh
      cases hh
      rw [if_pos h2] at hs
      exact .inr (.inl ⟨(ik h3).2, hs⟩)
    · rw [cS _ h2] at hh
      rw [if_neg h2] at hs
      exact .inr (.inr ⟨h1, h2, hh, hs⟩)
theorem T4 {c : Nat} {ch ch' : Ch} (h : (c, ch) ∈ ij (S.nm bd R.hp base) o.chunks yc) (h' : (c, ch') ∈ ij (S.nm bd R.hp base) o.chunks yc) : ch = ch' := by
  obtain ⟨bd2, ok2, hp2, hp⟩ := H.amh
  obtain ⟨n, s, y, a1, a2, a3, a4⟩ := rn hp h
  obtain ⟨n', s', y', b1, b2, b3, b4⟩ := rn hp h'
  have e1 := agS H a1 b1 (a2.symm.trans b2)
  subst e1
  obtain rfl := fA H.akj a1 b1
  have e2 : y = y' := Option.some.inj (a3.symm.trans b3)
  rw [a4, b4, e2]
theorem alB {n : Nat} {s : CSh} (h : (n, s) ∈ o.chunks) : ∃ y : s.T, N2.hp n = some ⟨0, bu s y⟩ ∧ (R.cY bd w S N2 o yc base).hp (S.nm bd R.hp base n).1 = some ⟨(S.nm bd R.hp base n).2, cW (S.nm bd R.hp base) s y⟩ := by
  obtain ⟨y, h1, h2⟩ := DW H h
  refine ⟨y, h1, ?_⟩
  obtain ⟨ch', h3, h4⟩ := mM _ (hp := eK R.hp (cw bd R.hp S.fixed S.chunks)) (aan h2)
  have e := T4 H h2 h3
  rw [e, ← h4]
  show eK R.hp (_ ++ _) _ = _
  rw [eP]
theorem YD : Hm N2 (R.cY bd w S N2 o yc base) (S.nm bd R.hp base) (!S.bw) := by
  refine ⟨fun n ch h => ?_, fun h b o' hb => Bu H (by simpa using h) b o' hb⟩
  rw [H.hp2] at h
  obtain ⟨bd2, ok2, hp2, hp⟩ := H.amh
  obtain ⟨s, y, h1, _, _⟩ := dk hp h
  obtain ⟨y', k1, k2⟩ := alB H h1
  rw [H.hp2, h] at k1
  cases k1
  exact ⟨rfl, _, k2, rfl, m9, Fm H h1⟩
theorem DX {c : Nat} {ch : Ch} {L : Loc} (h1 : c ∉ bc (ij (S.nm bd R.hp base) o.chunks yc)) (h2 : c ∉ bc (cw bd R.hp S.fixed S.chunks)) (hc : R.hp c = some ch) (hm : ch.body.mut = true) (hL : R.σ c = some L) : ¬ R.sV bd L.block := by
  rintro ⟨n, c', ch', L', k1, k2, k3, k4, k5⟩
  have := H.hm.apart c' c ch' ch L' L k2 hc k3 hm k4 hL k5
  subst this
  rcases Nat.lt_or_ge n S.fixed with hn | hn
  · obtain ⟨_, s, hs⟩ := Ba H hn
    refine h1 (k9.2 ⟨n, s, hs, ?_⟩)
    rw [Z0 hn]
    simp only [nameOf, k1]
  · have hok := H.ok
    unfold Shape.CE at hok
    simp only [Bool.and_eq_true, List.all_eq_true, List.any_eq_true] at hok
    obtain ⟨p, hp, hpe⟩ := hok.1.2 _ (ib k1)
    have e1 : p.1 = n := Nat.eq_of_beq_eq_true hpe
    subst e1
    exact h2 (yI (s := p.2) hp k1 hn)
end
end Sx
end Go.Proofs.YtohjofabochgfaaGreat

namespace Go.Proofs.YtohjofabochgfaaGreat
namespace Sx
open Go
theorem sS {N R : Ctx} {ν : Nm} {lists : Bool} (hr : Hm N R ν lists) : ∀ {l : List Sh} (_ : lists = true ∨ l.any Sh.cm = false) {x : ShT l} {us : List Value}, SV.bH N (hI l x) us → SV.bH R (kE ν l x) us
  | [], _, _, _, h => h
  | s :: r, hl, x, us, h => by
    have h1 : lists = true ∨ s.cm = false := hl.imp_right fun e => by simp only [List.any_cons, Bool.or_eq_false_iff] at e; exact e.1
    have h2 : lists = true ∨ r.any Sh.cm = false := hl.imp_right fun e => by simp only [List.any_cons, Bool.or_eq_false_iff] at e; exact e.2
    simp only [hI] at h
    simp only [kE]
    have hlen := SV.aK h
    have t1 := SV.dv h (m7 s x.1).length
    have t2 := SV.dw h (m7 s x.1).length
    rw [List.take_left] at t1
    rw [List.drop_left] at t2
    have := SV.ck (qj hr h1 t1) (sS hr h2 t2)
    rwa [List.take_append_drop] at this
section
variable {R : Ctx} {w w' : World} {S : ao} {args : List SV} {bd : Bd} {xc : CD S.chunks} {N N2 : Ctx} {o : aw} {yc : CD o.chunks} {base : Nat}
variable (H : ri R w w' S args bd xc N2 o yc base)
include H
theorem TA : R.Ext (R.cY bd w S N2 o yc base) := by
  refine ⟨s7 H, rfl, fun c ch hc => ?_⟩
  by_cases h1 : c ∈ bc (ij (S.nm bd R.hp base) o.chunks yc)
  · obtain ⟨n, s, hs, rfl⟩ := k9.1 h1
    obtain ⟨y, k1, k2⟩ := alB H hs
    refine ⟨_, k2, ?_⟩
    rcases Nat.lt_or_ge n S.fixed with hn | hn
    · obtain ⟨c', ch', ch2, g1, g2, g3, g4, g5, g6, g7, g8, _⟩ := je H hn
      have hσ := Fm H hs
      rw [Z0 hn] at hc hσ ⊢
      simp only [g2] at hc hσ ⊢
      rw [g3] at hc
      cases hc
      rw [k1] at g5
      cases g5
      refine ⟨by rw [g4]; exact Nat.le_refl _, fun _ => ⟨?_, ?_⟩⟩
      · simp only [m9]; exact g7
      · rw [hσ, g8]
    · exfalso
      rcases (nx H hs).2 with hq | hq
      · have : n < S.fixed := hq
        omega
      · rw [aft hn] at hc
        have h2 : R.hp (base + (n - S.fixed)) = none := hq.2
        rw [h2] at hc
        cases hc
  · by_cases h2 : c ∈ bc (cw bd R.hp S.fixed S.chunks)
    · obtain ⟨ch', h3, h4⟩ := mM _ (hp := R.hp) h2
      refine ⟨ch', ?_, ?_⟩
      · show eK R.hp (_ ++ _) c = _
        rw [eP, cS _ h1, h4]
      · rw [(ik h3).2]
        have : Tj R.hp c = ch.ep := by simp only [Tj, hc]
        rw [this]
        exact ⟨Nat.le_succ _, fun e => absurd e (by simp)⟩
    · refine ⟨ch, ?_, Nat.le_refl _, fun _ => ⟨rfl, ?_⟩⟩
      · show eK R.hp (_ ++ _) c = _
        rw [eP, cS _ h1, cS _ h2, hc]
      · rw [HW h1, if_neg h2]
theorem YC {s : CSh} {n : Nat} (h : (n, s) ∈ o.chunks) (t : Ty) (ht : s = .row t ∨ s = .frz t) : ∀ (x : t.T) (cs : List Value), Rep N2.F t x cs → Rep (R.fM bd w N2) t x cs := fun x cs hr => by
  rcases lJ H with hb | ⟨_, hq⟩
  · exact bO (Bu H hb) _ _ _ hr
  · have := (hq _ h).1
    refine o4 t ?_ x cs hr
    rcases ht with rfl | rfl <;> exact this
theorem afK {s : CSh} {n : Nat} (h : (n, s) ∈ o.chunks) : (!S.bw) = true ∨ s.cm = false := by
  rcases lJ H with hb | ⟨_, hq⟩
  · exact .inl (by rw [hb]; rfl)
  · exact .inr (hq _ h).1
theorem On {n : Nat} {s : CSh} {y : s.T} (hs : (n, s) ∈ o.chunks) (hn : N2.hp n = some ⟨0, bu s y⟩) {e : Nat} {c : Nat} (hσ : (R.cY bd w S N2 o yc base).σ c = N2.σ n) (hc : c = (S.nm bd R.hp base n).1) :
    eg (R.cY bd w S N2 o yc base) w' c ⟨e, cW (S.nm bd R.hp base) s y⟩ := by
  have h0 := H.hm2.ch n _ hn
  have hrep := YC H hs
  have hgone := (nx H hs).1
  cases s with
  | row t =>
    simp only [eg, bu, cW] at h0 ⊢
    rw [hσ]
    refine ⟨h0.1, h0.2.1, ?_⟩
    cases hL : N2.σ n with
    | none => have := h0.2.2; rw [hL] at this; exact this
    | some L =>
      have := h0.2.2
      rw [hL] at this
      obtain ⟨c1, c2, arr, E, c3, c4, c5, c6⟩ := this
      obtain ⟨_, d2, d3, _⟩ := Bs H c1 c2
      exact ⟨d3, d2, arr, E, c3, c4, c5, fun i hi => hrep t (.inl rfl) _ _ (c6 i hi)⟩
  | frz t =>
    simp only [eg, bu, cW] at h0 ⊢
    rw [hσ]
    refine ⟨h0.1, h0.2.1, ?_⟩
    cases hL : N2.σ n with
    | none => have := h0.2.2; rw [hL] at this; exact this
    | some L =>
      have := h0.2.2
      rw [hL] at this
      obtain ⟨arr, E, fz, c3, c4, c5, c6⟩ := this
      refine ⟨arr, E, fz, ?_, c4, c5, fun i hi => hrep t (.inr rfl) _ _ (c6 i hi)⟩
      show R.fM bd w N2 L.block = _
      rcases lJ H with hb | ⟨_, hq⟩
      · exact Bu H hb _ _ c3
      · have hf : n < S.fixed := (hq _ hs).2 rfl
        obtain ⟨c', ch', ch2, g1, g2, g3, g4, g5, g6, g7, g8, cs, g9, g10⟩ := je H hf
        have hfz := abq H hs g9 rfl hf
        have hmu : ch'.body.mut = false := by rw [← g10, ← hfz]; rfl
        obtain ⟨o', ho⟩ := (c8 H.hm g3 (by rw [← g8]; exact hL)).2 hmu
        have h1 := s7 H _ _ ho
        have h2 := Bt H _ _ h1
        rw [H.hm2.F _ _ c3] at h2
        cases h2
        exact h1
  | cells l =>
    simp only [eg, bu, cW] at h0 ⊢
    obtain ⟨L, h1, h2, h3, arr, E, h4, h5, h6, h7, h8⟩ := h0
    obtain ⟨_, d2, d3, _⟩ := Bs H h2 h3
    refine ⟨L, by rw [hσ]; exact h1, d3, d2, arr, E, h4, h5, h6.trans (gH (l := l) (x := y)).symm, sS (YD H) ?_ h7, h8⟩
    exact afK H hs
  | gone => cases hgone
theorem agl : cN (R.cY bd w S N2 o yc base) w' := by
  refine ⟨Bt H, fun b o' h => ?_, fun c ch hc => ?_, fun c c' ch ch' L L' h1 h2 m1 m2 s1 s2 hb => ?_, fun b o' h => ?_, by have h2 := H.hm2.env; rw [H.inU] at h2; exact h2⟩
  · have h1 := H.hm.U b o' h
    have hlt := (Array.getElem?_eq_some_iff.1 h1).1
    replace h : R.U b = some o' := h
    rw [H.old b hlt (fun hq => by rw [(vG H.hm hq).2] at h; cases h)]
    exact h1
  · rcases Gt H hc with ⟨n, s, y, k1, k2, k3, rfl, k5⟩ | ⟨rfl, k2⟩ | ⟨k1, k2, k3, k4⟩
    · exact On H k1 k3 k5 k2
    · simp only [eg]
      rw [k2]
      exact ⟨by decide, by simp, trivial⟩
    · have h0 := H.hm.ch c ch k3
      have hfree : ∀ L, ch.body.mut = true → R.σ c = some L → ¬ R.sV bd L.block := fun L hm hL => DX H k1 k2 k3 hm hL
      obtain ⟨ep, body⟩ := ch
      cases body with
      | row t xs =>
        simp only [eg] at h0 ⊢
        rw [k4]
        refine ⟨h0.1, h0.2.1, ?_⟩
        cases hL : R.σ c with
        | none => have := h0.2.2; rw [hL] at this; exact this
        | some L =>
          have := h0.2.2
          rw [hL] at this
          obtain ⟨c1, c2, arr, E, c3, c4, c5, c6⟩ := this
          have hlt := (Array.getElem?_eq_some_iff.1 c3).1
          have hf := hfree L rfl hL
          refine ⟨?_, c2, arr, E, (H.old _ hlt hf).trans c3, c4, c5, fun i hi => bO (s7 H) _ _ _ (c6 i hi)⟩
          show R.fM bd w N2 L.block = none
          unfold Ctx.fM
          rw [if_pos ⟨hlt, hf⟩]
          exact c1
      | frz t xs =>
        simp only [eg] at h0 ⊢
        rw [k4]
        refine ⟨h0.1, h0.2.1, ?_⟩
        cases hL : R.σ c with
        | none => have := h0.2.2; rw [hL] at this; exact this
        | some L =>
          have := h0.2.2
          rw [hL] at this
          obtain ⟨arr, E, fz, c3, c4, c5, c6⟩ := this
          exact ⟨arr, E, fz, s7 H _ _ c3, c4, c5, fun i hi => bO (s7 H) _ _ _ (c6 i hi)⟩
      | cells vs =>
        simp only [eg] at h0 ⊢
        obtain ⟨L, hL, c1, c2, arr, E, c3, c4, c5, c6, c7⟩ := h0
        have hlt := (Array.getElem?_eq_some_iff.1 c3).1
        have hf := hfree L rfl hL
        refine ⟨L, k4.trans hL, ?_, c2, arr, E, (H.old _ hlt hf).trans c3, c4, c5, SV.dZ (TA H) _ _ c6, c7⟩
        show R.fM bd w N2 L.block = none
        unfold Ctx.fM
        rw [if_pos ⟨hlt, hf⟩]
        exact c1
  · have inn : ∀ (n : Nat) (s : CSh) (y : s.T) (L : Loc), N2.hp n = some ⟨0, bu s y⟩ → (bu s y).mut = true → N2.σ n = some L → w.heap.size ≤ L.block ∨ R.sV bd L.block := fun n s y L a1 a2 a3 => by
      have := (c8 H.hm2 a1 a3).1 a2
      exact (Bs H this.1 this.2).2.2.2
    have out : ∀ (c : Nat) (ch : Ch) (L : Loc), c ∉ bc (ij (S.nm bd R.hp base) o.chunks yc) → c ∉ bc (cw bd R.hp S.fixed S.chunks) → R.hp c = some ch → ch.body.mut = true → R.σ c = some L → L.block < w.heap.size ∧ ¬ R.sV bd L.block := fun c ch L a1 a2 a3 a4 a5 => by
      refine ⟨?_, DX H a1 a2 a3 a4 a5⟩
      have h0 := H.hm.ch c ch a3
      obtain ⟨ep, body⟩ := ch
      cases body with
      | row t xs =>
        simp only [eg, a5] at h0
        obtain ⟨_, _, _, _, arr, E, c3, _⟩ := h0
        exact (Array.getElem?_eq_some_iff.1 c3).1
      | frz t xs => cases a4
      | cells vs =>
        simp only [eg] at h0
        obtain ⟨L', hL, _, _, arr, E, c3, _⟩ := h0
        rw [a5] at hL
        cases hL
        exact (Array.getElem?_eq_some_iff.1 c3).1
    rcases Gt H h1 with ⟨n, s, y, k1, k2, k3, rfl, k5⟩ | ⟨rfl, k2⟩ | ⟨k1, k2, k3, k4⟩ <;>
      rcases Gt H h2 with ⟨n', s', y', k1', k2', k3', rfl, k5'⟩ | ⟨rfl, k2'⟩ | ⟨k1', k2', k3', k4'⟩
    · rw [k5] at s1
      rw [k5'] at s2
      have a1 : (bu s y).mut = true := by rw [← hC]; exact m1
      have a2 : (bu s' y').mut = true := by rw [← hC]; exact m2
      have := H.hm2.apart n n' _ _ L L' k3 k3' a1 a2 s1 s2 hb
      rw [k2, k2', this]
    · rw [k2'] at s2; cases s2
    · rw [k5] at s1
      rw [k4'] at s2
      have a1 : (bu s y).mut = true := by rw [← hC]; exact m1
      have h3 := inn n s y L k3 a1 s1
      have h4 := out c' ch' L' k1' k2' k3' m2 s2
      rw [hb] at h3
      rcases h3 with h3 | h3
      · omega
      · exact absurd h3 h4.2
    · rw [k2] at s1; cases s1
    · rw [k2] at s1; cases s1
    · rw [k2] at s1; cases s1
    · rw [k5'] at s2
      rw [k4] at s1
      have a1 : (bu s' y').mut = true := by rw [← hC]; exact m2
      have h3 := inn n' s' y' L' k3' a1 s2
      have h4 := out c ch L k1 k2 k3 m1 s1
      rw [← hb] at h3
      rcases h3 with h3 | h3
      · omega
      · exact absurd h3 h4.2
    · rw [k2'] at s2; cases s2
    · rw [k4] at s1
      rw [k4'] at s2
      exact H.hm.apart c c' ch ch' L L' k3 k3' m1 m2 s1 s2 hb
  · replace h : R.fM bd w N2 b = some o' := h
    show R.U b = none
    unfold Ctx.fM at h
    split at h
    · exact H.hm.FU b o' h
    · rename_i hq
      cases hU : R.U b with
      | none => rfl
      | some o2 =>
        have hlt := (Array.getElem?_eq_some_iff.1 (H.hm.U b o2 hU)).1
        refine absurd ⟨hlt, fun hbd => ?_⟩ hq
        rw [(vG H.hm hbd).2] at hU
        cases hU
theorem Wp : dJ R (R.cY bd w S N2 o yc base) w' (cw bd R.hp S.fixed S.chunks ++ ij (S.nm bd R.hp base) o.chunks yc) :=
  ⟨TA H, rfl, agl H⟩
end
end Sx
end Go.Proofs.YtohjofabochgfaaGreat
