/- A symbolic machine for Go code over plain data, and functions of the program as it shows them. No statement is proved in this file. -/
import Derived.Test.YtkngdfhigpjciaaProg
import Derived.KernelRfl
import Derived.Test.YtkngdfhigpjciaaXb
set_option linter.unusedSimpArgs false
set_option linter.unusedVariables false
set_option linter.unusedSectionVars false
/- Functions by shapes: what a call makes of memory. No statement of a seat is proved here. -/
namespace Go.Proofs.Ytkngdfhigpjciaa
namespace Sx
open Go

theorem OT.run_bind {α β : Type} {f : α → OT β} : ∀ {t : OT α} {b : β}, (t.bind f).run = some b → ∃ a, t.run = some a ∧ (f a).run = some b
  | .ok a, b, h => ⟨a, rfl, h⟩
  | .br c x y, b, h => by
    cases c
    · exact OT.run_bind (t := y) h
    · exact OT.run_bind (t := x) h
  | .fail, b, h => by cases h

theorem putHp_mem {m : Nat} : ∀ (u : List (Nat × Ch)) {hp : Hp}, m ∈ namesOf u → ∃ ch, (m, ch) ∈ u ∧ putHp hp u m = some ch
  | [], _, h => by simp [namesOf] at h
  | (c, ch) :: r, hp, h => by
    by_cases h2 : m ∈ namesOf r
    · obtain ⟨ch', h3, h4⟩ := putHp_mem r (hp := fun n => if n = c then some ch else hp n) h2
      exact ⟨ch', by simp [h3], h4⟩
    · have h1 : m = c := by
        simp only [namesOf, List.map_cons, List.mem_cons] at h
        exact h.resolve_right h2
      subst h1
      refine ⟨ch, by simp, ?_⟩
      simp only [putHp]
      rw [putHp_not r h2]
      simp

/-- The part of the data that belongs to a chunk. -/
theorem updIn_mem {ν : Nm} {bd : Bd} {ok : Nat → Bool} {hp : Hp} : ∀ {l : List (Nat × CSh)} {x : CShT l} {c : Nat} {ch : Ch}, prjChunks bd ok hp l = some x → (c, ch) ∈ updIn ν l x →
    ∃ n s y, (n, s) ∈ l ∧ c = (ν n).1 ∧ prjOld bd ok hp n s = some y ∧ ch = ⟨(ν n).2, injChunkN ν s y⟩
  | [], _, _, _, _, h => by cases h
  | q :: r, x, c, ch, hp, h => by
    obtain ⟨h1, h2⟩ := pPair_some hp
    simp only [updIn, List.mem_cons] at h
    rcases h with h | h
    · cases h
      exact ⟨q.1, q.2, x.1, by simp, rfl, h1, rfl⟩
    · obtain ⟨n, s, y, k1, k2⟩ := updIn_mem h2 h
      exact ⟨n, s, y, by simp [k1], k2⟩

theorem updIn_names {ν : Nm} : ∀ {l : List (Nat × CSh)} {x : CShT l} {c : Nat}, c ∈ namesOf (updIn ν l x) ↔ ∃ n s, (n, s) ∈ l ∧ c = (ν n).1
  | [], _, _ => by simp [updIn, namesOf]
  | q :: r, x, c => by
    have ih := updIn_names (ν := ν) (l := r) (x := x.2) (c := c)
    unfold namesOf at ih ⊢
    simp only [updIn, List.map_cons, List.mem_cons]
    constructor
    · rintro (h | h)
      · exact ⟨q.1, q.2, .inl rfl, h⟩
      · obtain ⟨n, s, h1, h2⟩ := ih.1 h
        exact ⟨n, s, .inr h1, h2⟩
    · rintro ⟨n, s, h1 | h1, h2⟩
      · left; rw [← h1] at *; exact h2
      · exact .inr (ih.2 ⟨n, s, h1, h2⟩)

theorem updGone_mem {bd : Bd} {hp : Hp} {fixed : Nat} : ∀ {l : List (Nat × CSh)} {c : Nat} {ch : Ch}, (c, ch) ∈ updGone bd hp fixed l → (∃ n, bdGet bd n = some (some c) ∧ fixed ≤ n) ∧ ch = ⟨epOf hp c + 1, .row .u8 []⟩
  | [], _, _, h => by cases h
  | q :: r, c, ch, h => by
    simp only [updGone] at h
    cases hb : Nat.blt q.1 fixed
    · rw [hb] at h
      simp only [cond_false] at h
      split at h
      · rename_i o ho
        simp only [List.mem_cons] at h
        rcases h with h | h
        · cases h
          have : ¬ q.1 < fixed := fun hlt => by rw [blt_to hlt] at hb; cases hb
          exact ⟨⟨q.1, ho, by omega⟩, rfl⟩
        · exact updGone_mem h
      · exact updGone_mem h
    · rw [hb] at h
      exact updGone_mem (by simpa using h)

theorem updGone_has {bd : Bd} {hp : Hp} {fixed : Nat} : ∀ {l : List (Nat × CSh)} {n c : Nat} {s : CSh}, (n, s) ∈ l → bdGet bd n = some (some c) → fixed ≤ n → c ∈ namesOf (updGone bd hp fixed l)
  | [], _, _, _, h, _, _ => by cases h
  | q :: r, n, c, s, h, hb, hn => by
    simp only [updGone]
    rcases List.mem_cons.1 h with h | h
    · subst h
      have : Nat.blt n fixed = false := by
        cases hq : Nat.blt n fixed
        · rfl
        · have := blt_of hq; omega
      unfold namesOf
      simp only [this, cond_false, hb, List.map_cons, List.mem_cons]
      exact .inl trivial
    · have ih := updGone_has (hp := hp) h hb hn
      cases Nat.blt q.1 fixed
      · simp only [cond_false]
        split
        · unfold namesOf at ih ⊢
          simp only [List.map_cons, List.mem_cons]
          exact .inr ih
        · exact ih
      · exact ih

theorem putHp_append : ∀ (u v : List (Nat × Ch)) {hp : Hp}, putHp hp (u ++ v) = putHp (putHp hp u) v
  | [], _, _ => rfl
  | (c, ch) :: r, v, hp => putHp_append r v

theorem mem_names {u : List (Nat × Ch)} {c : Nat} {ch : Ch} (h : (c, ch) ∈ u) : c ∈ namesOf u := List.mem_map.2 ⟨_, h, rfl⟩

theorem distinct_unique : ∀ {l : List (Nat × CSh)}, distinct (l.map (·.1)) = true → ∀ {n : Nat} {s s' : CSh}, (n, s) ∈ l → (n, s') ∈ l → s = s'
  | [], _, _, _, _, h, _ => by cases h
  | q :: r, hd, n, s, s', h, h' => by
    simp only [List.map_cons, distinct, Bool.and_eq_true, Bool.not_eq_true'] at hd
    have no : ∀ s, (n, s) ∈ r → q.1 ≠ n := fun s hs e => by
      have := hd.1
      rw [List.any_eq_false] at this
      exact this n (List.mem_map.2 ⟨_, hs, rfl⟩) (by rw [e]; exact Nat.beq_refl n)
    rcases List.mem_cons.1 h with h | h <;> rcases List.mem_cons.1 h' with h' | h'
    · rw [← h'] at h; cases h; rfl
    · exact absurd (by rw [← h]) (no s' h')
    · exact absurd (by rw [← h']) (no s h)
    · exact distinct_unique hd.2 h h'

theorem injCellsN_length {ν : Nm} : ∀ {l : List Sh} {x : ShT l}, (injCellsN ν l x).length = (injCells l x).length
  | [], _ => rfl
  | s :: r, x => by simp only [injCellsN, injCells, List.length_append, injOneN_length, injCellsN_length]

theorem injChunkN_shape {ν : Nm} {s : CSh} {y : s.T} : (injChunkN ν s y).shape = (injChunk s y).shape := by
  cases s <;> simp only [injChunkN, injChunk, Chunk.shape]
  case cells l =>
    have := injCellsN_length (ν := ν) (l := l) (x := y)
    rw [this]

theorem injChunkN_mut {ν : Nm} {s : CSh} {y : s.T} : (injChunkN ν s y).mut = (injChunk s y).mut := by
  cases s <;> rfl

theorem injChunk_mut {s : CSh} {y : s.T} : (injChunk s y).mut = !s.isFrz := by
  cases s <;> rfl

end Sx
end Go.Proofs.Ytkngdfhigpjciaa

/- Functions by shapes: memory behind a call. No statement of a seat is proved here. -/
namespace Go.Proofs.Ytkngdfhigpjciaa
namespace Sx
open Go

section
variable {R : Ctx} {w w' : World} {S : FnSpec} {args : List SV} {bd : Bd} {xc : CShT S.chunks} {N N2 : Ctx} {o : OutSh} {yc : CShT o.chunks} {base : Nat}

/-- The names that stay. -/
def Ctx.upTo (N : Ctx) (k : Nat) : Ctx := { N with hp := fun n => cond (Nat.blt n k) (N.hp n) none }

/-- All that is known where a call ends. -/
structure CallEnd (R : Ctx) (w w' : World) (S : FnSpec) (args : List SV) (bd : Bd) (xc : CShT S.chunks) (N2 : Ctx) (o : OutSh) (yc : CShT o.chunks) (base : Nat) : Prop where
  hm : HpOk R w
  ok : S.inp.bdOk ⟨args, R.hp⟩ bd = true
  hx : prjChunks bd (freeOf S.borrow bd) R.hp S.chunks = some xc
  ext : ((R.named (R.insF bd S.borrow w) (R.insU bd S.borrow w) bd (injHp S.chunks xc)).upTo S.fixed).Ext N2
  hm2 : HpOk N2 w'
  hp2 : N2.hp = injHp o.chunks yc
  prj2 : ∃ bd2 ok2 hp2, prjChunks bd2 ok2 hp2 o.chunks = some yc
  dist2 : distinct (o.chunks.map (·.1)) = true
  endOk : S.endOk bd R.hp base o = true

open Classical in
noncomputable def Ctx.afterF (R : Ctx) (bd : Bd) (w : World) (N2 : Ctx) : Nat → Option Obj := fun b =>
  if b < w.heap.size ∧ ¬ R.bound bd b then R.F b else N2.F b

open Classical in
noncomputable def Ctx.afterCall (R : Ctx) (bd : Bd) (w : World) (S : FnSpec) (N2 : Ctx) (o : OutSh) (yc : CShT o.chunks) (base : Nat) : Ctx :=
  ⟨R.afterF bd w N2, R.U, fun c => match o.chunks.find? (fun q => Nat.beq (S.nm bd R.hp base q.1).1 c) with
    | some q => N2.σ q.1
    | none => if c ∈ namesOf (updGone bd R.hp S.fixed S.chunks) then none else R.σ c,
   putHp R.hp (updGone bd R.hp S.fixed S.chunks ++ updIn (S.nm bd R.hp base) o.chunks yc)⟩

variable (H : CallEnd R w w' S args bd xc N2 o yc base)
include H

theorem CallEnd.inF : ∀ b o', R.insF bd S.borrow w b = some o' → N2.F b = some o' := fun b o' h => H.ext.F b o' h

theorem CallEnd.inU : N2.U = R.insU bd S.borrow w := H.ext.U

theorem CallEnd.old : ∀ b, b < w.heap.size → ¬ R.bound bd b → w'.heap[b]? = w.heap[b]? :=
  stays H.hm H.inF H.inU H.hm2.F H.hm2.U

theorem F_old {b : Nat} {o' : Obj} (h : R.F b = some o') : b < w.heap.size ∧ ¬ R.bound bd b :=
  ⟨(Array.getElem?_eq_some_iff.1 (H.hm.F b o' h)).1, fun hb => by rw [(bound_F H.hm hb).1] at h; cases h⟩

theorem afterF_F : ∀ b o', R.F b = some o' → R.afterF bd w N2 b = some o' := fun b o' h => by
  unfold Ctx.afterF
  rw [if_pos (F_old H h)]
  exact h

theorem afterF_heap : ∀ b o', R.afterF bd w N2 b = some o' → w'.heap[b]? = some o' := fun b o' h => by
  unfold Ctx.afterF at h
  split at h
  · rename_i hb
    rw [H.old b hb.1 hb.2]; exact H.hm.F b o' h
  · exact H.hm2.F b o' h

theorem afterF_N2 (hb : S.borrow = false) : ∀ b o', N2.F b = some o' → R.afterF bd w N2 b = some o' := fun b o' h => by
  unfold Ctx.afterF
  split
  · rename_i hq
    cases hR : R.F b with
    | some o2 =>
      have h1 := H.hm.F b o2 hR
      rw [← H.old b hq.1 hq.2, H.hm2.F b o' h] at h1
      exact h1.symm
    | none =>
      exfalso
      have h2 := H.hm2.FU b o' h
      rw [H.inU] at h2
      unfold Ctx.insU at h2
      dsimp only at h2
      rw [if_neg (by rintro (h | h | ⟨o2, h⟩); exact hq.2 h; rw [hb] at h; cases h; rw [hR] at h; cases h)] at h2
      simp [hq.1] at h2
  · exact h

/-- A block that the callee may write. -/
theorem block_own {b : Nat} (hF : N2.F b = none) (hU : N2.U b = none) : R.F b = none ∧ R.U b = none ∧ R.afterF bd w N2 b = none ∧ (w.heap.size ≤ b ∨ R.bound bd b) := by
  by_cases hb : b < w.heap.size
  · have hs : w.heap[b]? = some w.heap[b] := by simp [hb]
    have hbd : R.bound bd b := Classical.byContradiction fun hn => by
      have h1 : R.insF bd S.borrow w b = none := by
        cases hq : R.insF bd S.borrow w b with
        | none => rfl
        | some o' => rw [H.inF b o' hq] at hF; cases hF
      rw [H.inU] at hU
      unfold Ctx.insU at hU
      dsimp only at hU
      unfold Ctx.insF at h1
      rw [if_neg hn] at h1
      by_cases hbo : S.borrow = true
      · rw [if_pos hbo, hs] at h1; cases h1
      · rw [if_neg hbo] at h1
        rw [if_neg (by rintro (h | h | ⟨o2, h⟩); exact hn h; exact hbo h; rw [h1] at h; cases h), hs] at hU
        cases hU
    refine ⟨(bound_F H.hm hbd).1, (bound_F H.hm hbd).2, ?_, .inr hbd⟩
    unfold Ctx.afterF
    rw [if_neg (fun h => h.2 hbd)]
    exact hF
  · refine ⟨?_, ?_, ?_, .inl (by omega)⟩
    · cases hR : R.F b with
      | none => rfl
      | some o' => exact absurd (F_old H hR).1 hb
    · cases hR : R.U b with
      | none => rfl
      | some o' => exact absurd (Array.getElem?_eq_some_iff.1 (H.hm.U b o' hR)).1 hb
    · unfold Ctx.afterF
      rw [if_neg (fun h => hb h.1)]
      exact hF

/-- The conditions at a call's end, taken apart. -/
theorem endOk_lists : S.borrow = false ∨ (o.rs.any Sh.hasList = false ∧ ∀ q ∈ o.chunks, q.2.hasList = false ∧ (q.2.isFrz = true → q.1 < S.fixed)) := by
  have h := H.endOk
  unfold FnSpec.endOk at h
  simp only [Bool.and_eq_true] at h
  have h1 := h.1
  cases hb : S.borrow
  · exact .inl rfl
  · right
    rw [hb] at h1
    simp only [Bool.not_true, Bool.false_or, Bool.not_eq_true', Bool.or_eq_false_iff] at h1
    refine ⟨h1.1, fun q hq => ?_⟩
    have h2 := List.any_eq_false.1 h1.2 q hq
    simp only [Bool.or_eq_true, Bool.and_eq_true, Bool.not_eq_true', not_or, not_and] at h2
    refine ⟨by simpa using h2.1, fun hf => ?_⟩
    have := h2.2 hf
    exact blt_of (by simpa using this)

theorem endOk_fixed {k : Nat} (hk : k < S.fixed) : (∃ c, bdGet bd k = some (some c)) ∧ ∃ s, (k, s) ∈ o.chunks := by
  have h := H.endOk
  unfold FnSpec.endOk at h
  simp only [Bool.and_eq_true, List.all_eq_true] at h
  have h1 := h.2.1 k (by simpa using hk)
  constructor
  · have h2 := h1.1
    split at h2
    · rename_i c hc; exact ⟨c, hc⟩
    · cases h2
  · obtain ⟨q, hq, he⟩ := List.any_eq_true.1 h1.2
    have := Nat.eq_of_beq_eq_true he
    subst this
    exact ⟨q.2, hq⟩

theorem endOk_frz {q : Nat × CSh} (hq : q ∈ o.chunks) {q' : Nat × CSh} (hq' : q' ∈ S.chunks) (he : q.1 = q'.1) (hf : q.1 < S.fixed) : q.2.isFrz = q'.2.isFrz := by
  have h := H.endOk
  unfold FnSpec.endOk at h
  simp only [Bool.and_eq_true, List.all_eq_true] at h
  have h1 := h.2.2.1 q hq q' hq'
  simp only [he, Nat.beq_refl, Bool.not_true, Bool.false_or] at h1
  rw [he] at hf
  rw [blt_to hf] at h1
  simpa using h1

theorem endOk_new {q : Nat × CSh} (hq : q ∈ o.chunks) : q.2.isGone = false ∧ (q.1 < S.fixed ∨ (q.1 - S.fixed < 64 ∧ R.hp (base + (q.1 - S.fixed)) = none)) := by
  have h := H.endOk
  unfold FnSpec.endOk at h
  simp only [Bool.and_eq_true, List.all_eq_true] at h
  have h1 := h.2.2.2 q hq
  simp only [Bool.or_eq_true, Bool.and_eq_true, Bool.not_eq_true'] at h1
  refine ⟨h1.1, ?_⟩
  rcases h1.2 with h2 | h2
  · exact .inl (blt_of h2)
  · refine .inr ⟨blt_of h2.1, ?_⟩
    have := h2.2
    cases hq : R.hp (base + (q.1 - S.fixed)) with
    | none => rfl
    | some c => rw [hq] at this; cases this

end
end Sx
end Go.Proofs.Ytkngdfhigpjciaa

/- Functions by shapes: memory behind a call, as the caller has it. No statement of a seat is proved here. -/
namespace Go.Proofs.Ytkngdfhigpjciaa
namespace Sx
open Go

section
variable {R : Ctx} {w w' : World} {S : FnSpec} {args : List SV} {bd : Bd} {xc : CShT S.chunks} {N N2 : Ctx} {o : OutSh} {yc : CShT o.chunks} {base : Nat}
variable (H : CallEnd R w w' S args bd xc N2 o yc base)
include H

/-- A chunk among those that are left. -/
theorem out_member {n : Nat} {s : CSh} (h : (n, s) ∈ o.chunks) : ∃ y : s.T, N2.hp n = some ⟨0, injChunk s y⟩ ∧ ((S.nm bd R.hp base n).1, (⟨(S.nm bd R.hp base n).2, injChunkN (S.nm bd R.hp base) s y⟩ : Ch)) ∈ updIn (S.nm bd R.hp base) o.chunks yc := by
  obtain ⟨bd2, ok2, hp2, hp⟩ := H.prj2
  obtain ⟨ch, hch⟩ := injHp_mem (x := yc) (n := n) ⟨s, h⟩
  obtain ⟨s', y, h1, h2, h3⟩ := injHp_some hp hch
  obtain rfl := distinct_unique H.dist2 h h1
  have hg := (endOk_new H h).1
  have hep : s.ep = 0 := by cases s <;> first | rfl | (cases hg; done)
  refine ⟨y, by rw [H.hp2, hch, h3, hep], ?_⟩
  have : ∀ {l : List (Nat × CSh)} {x : CShT l}, prjChunks bd2 ok2 hp2 l = some x → (n, s) ∈ l → ((S.nm bd R.hp base n).1, (⟨(S.nm bd R.hp base n).2, injChunkN (S.nm bd R.hp base) s y⟩ : Ch)) ∈ updIn (S.nm bd R.hp base) l x := by
    intro l
    induction l with
    | nil => intro x _ hm; cases hm
    | cons q r ih =>
      intro x hp hm
      obtain ⟨p1, p2⟩ := pPair_some hp
      simp only [updIn, List.mem_cons]
      rcases List.mem_cons.1 hm with he | he
      · subst he
        left
        have : x.1 = y := by
          have := p1.symm.trans h2
          exact Option.some.inj this
        rw [this]
      · exact .inr (ih p2 he)
  exact this hp h

/-- What is written for the chunks that are left. -/
theorem upd_member {c : Nat} {ch : Ch} (h : (c, ch) ∈ updIn (S.nm bd R.hp base) o.chunks yc) : ∃ n s, ∃ y : s.T, (n, s) ∈ o.chunks ∧ c = (S.nm bd R.hp base n).1 ∧ N2.hp n = some ⟨0, injChunk s y⟩ ∧ ch = ⟨(S.nm bd R.hp base n).2, injChunkN (S.nm bd R.hp base) s y⟩ := by
  obtain ⟨bd2, ok2, hp2, hp⟩ := H.prj2
  obtain ⟨n, s, y, h1, h2, h3, h4⟩ := updIn_mem hp h
  refine ⟨n, s, y, h1, h2, ?_, h4⟩
  obtain ⟨ch, hch⟩ := injHp_mem (x := yc) (n := n) ⟨s, h1⟩
  obtain ⟨s', y', k1, k2, k3⟩ := injHp_some hp hch
  obtain rfl := distinct_unique H.dist2 h1 k1
  have : y = y' := Option.some.inj (h3.symm.trans k2)
  subst this
  have hg := (endOk_new H h1).1
  have hep : s.ep = 0 := by cases s <;> first | rfl | (cases hg; done)
  rw [H.hp2, hch, k3, hep]

omit H in
theorem nm_lt {n : Nat} (h : n < S.fixed) : S.nm bd R.hp base n = (nameOf bd n, epOf R.hp (nameOf bd n)) := by
  unfold FnSpec.nm; rw [blt_to h]; rfl

omit H in
theorem nm_ge {n : Nat} (h : S.fixed ≤ n) : S.nm bd R.hp base n = (base + (n - S.fixed), 0) := by
  unfold FnSpec.nm
  have : Nat.blt n S.fixed = false := by
    cases hq : Nat.blt n S.fixed
    · rfl
    · have := blt_of hq; omega
  rw [this]; rfl

/-- A chunk that stays. -/
theorem fixed_chunk {k : Nat} (hk : k < S.fixed) : ∃ c ch, ∃ ch2 : Ch, bdGet bd k = some (some c) ∧ nameOf bd k = c ∧ R.hp c = some ch ∧ epOf R.hp c = ch.ep ∧ N2.hp k = some ch2 ∧ ch2.ep = 0 ∧ ch2.body.shape = ch.body.shape ∧ N2.σ k = R.σ c ∧
    (∃ cs, (k, cs) ∈ S.chunks ∧ (!cs.isFrz) = ch.body.mut) := by
  obtain ⟨⟨c, hb⟩, s, hs⟩ := endOk_fixed H hk
  obtain ⟨cs, y, h1, h2⟩ := bd_chunk (s := S.inp) (st := ⟨args, R.hp⟩) H.ok H.hx hb
  simp only [prjOld, hb] at h1
  split at h1
  · rename_i ch hch
    obtain ⟨y2, g1, _⟩ := out_member H hs
    obtain ⟨ch2, e1, e2, e3⟩ := H.ext.ch k ⟨0, injChunk cs y⟩ (by
      show cond (Nat.blt k S.fixed) (injHp S.chunks xc k) none = _
      rw [blt_to hk]; exact h2)
    rw [g1] at e1
    cases e1
    have e4 := e3 rfl
    refine ⟨c, ch, _, hb, by simp only [nameOf, hb], hch, by simp only [epOf, show R.hp c = some ch from hch], g1, rfl, e4.1.trans (prjChunk_shape h1), ?_, ?_⟩
    · rw [e4.2]; simp only [Ctx.upTo, Ctx.named, hb]
    · obtain ⟨s3, y3, k1, k2, k3⟩ := injHp_some H.hx h2
      simp only [prjOld, hb, show R.hp c = some ch from hch] at k2
      refine ⟨s3, k1, ?_⟩
      rw [← prjChunk_mut k2, injChunk_mut]
  · cases h1

theorem nm_inj {n m : Nat} {s s' : CSh} (hn : (n, s) ∈ o.chunks) (hm : (m, s') ∈ o.chunks) (h : (S.nm bd R.hp base n).1 = (S.nm bd R.hp base m).1) : n = m := by
  have half : ∀ {a b : Nat} {t t' : CSh}, (a, t) ∈ o.chunks → (b, t') ∈ o.chunks → a < S.fixed → S.fixed ≤ b → (S.nm bd R.hp base a).1 = (S.nm bd R.hp base b).1 → False := fun {a b t t'} h1 h2 h3 h4 h5 => by
    rw [nm_lt h3, nm_ge h4] at h5
    obtain ⟨c, ch, _, g1, g2, g3, _⟩ := fixed_chunk H h3
    rcases (endOk_new H h2).2 with hq | hq
    · have : b < S.fixed := hq
      omega
    · simp only at h5
      rw [← h5, g2, g3] at hq
      cases hq.2
  rcases Nat.lt_or_ge n S.fixed with h1 | h1 <;> rcases Nat.lt_or_ge m S.fixed with h2 | h2
  · rw [nm_lt h1, nm_lt h2] at h
    obtain ⟨c, _, _, g1, g2, _⟩ := fixed_chunk H h1
    obtain ⟨c', _, _, g1', g2', _⟩ := fixed_chunk H h2
    have hcc : c = c' := by rw [← g2, ← g2']; exact h
    have hok := H.ok
    unfold Shape.bdOk at hok
    simp only [Bool.and_eq_true, List.all_eq_true, List.any_eq_true] at hok
    obtain ⟨p, hp, hpe⟩ := hok.1.2 _ (bdGet_mem' g1)
    obtain ⟨p', hp', hpe'⟩ := hok.1.2 _ (bdGet_mem' g1')
    have e1 := Nat.eq_of_beq_eq_true hpe
    have e2 := Nat.eq_of_beq_eq_true hpe'
    have h3 := hok.1.1.2 p hp p' hp'
    rw [e1, e2] at h3
    simp only at h3
    rw [g1, g1', hcc] at h3
    simp only [Nat.beq_refl, Bool.not_true, Bool.or_false] at h3
    exact Nat.eq_of_beq_eq_true h3
  · exact (half hn hm h1 h2 h).elim
  · exact (half hm hn h2 h1 h.symm).elim
  · rw [nm_ge h1, nm_ge h2] at h
    simp only at h
    omega

theorem sigma_in {n : Nat} {s : CSh} (h : (n, s) ∈ o.chunks) : (R.afterCall bd w S N2 o yc base).σ (S.nm bd R.hp base n).1 = N2.σ n := by
  show (match o.chunks.find? (fun q => Nat.beq (S.nm bd R.hp base q.1).1 (S.nm bd R.hp base n).1) with | some q => N2.σ q.1 | none => _) = _
  cases hf : o.chunks.find? (fun q => Nat.beq (S.nm bd R.hp base q.1).1 (S.nm bd R.hp base n).1) with
  | none =>
    have := List.find?_eq_none.1 hf (n, s) h
    simp at this
  | some q =>
    have h1 := List.find?_some hf
    have h2 := List.mem_of_find?_eq_some hf
    have h3 : q.1 = n := nm_inj H (s := q.2) (s' := s) h2 h (Nat.eq_of_beq_eq_true h1)
    simp only [h3]

omit H in
theorem sigma_out {c : Nat} (h : c ∉ namesOf (updIn (S.nm bd R.hp base) o.chunks yc)) : (R.afterCall bd w S N2 o yc base).σ c = (open Classical in if c ∈ namesOf (updGone bd R.hp S.fixed S.chunks) then none else R.σ c) := by
  show (match o.chunks.find? (fun q => Nat.beq (S.nm bd R.hp base q.1).1 c) with | some q => N2.σ q.1 | none => _) = _
  cases hf : o.chunks.find? (fun q => Nat.beq (S.nm bd R.hp base q.1).1 c) with
  | none => rfl
  | some q =>
    exfalso
    have h1 := Nat.eq_of_beq_eq_true (List.find?_some (p := fun q : Nat × CSh => Nat.beq (S.nm bd R.hp base q.1).1 c) hf)
    have h2 := List.mem_of_find?_eq_some hf
    exact h (updIn_names.2 ⟨q.1, q.2, h2, h1.symm⟩)

/-- The three kinds of chunks behind a call. -/
theorem hp_cases {c : Nat} {ch : Ch} (h : (R.afterCall bd w S N2 o yc base).hp c = some ch) :
    (∃ n s, ∃ y : s.T, (n, s) ∈ o.chunks ∧ c = (S.nm bd R.hp base n).1 ∧ N2.hp n = some ⟨0, injChunk s y⟩ ∧ ch = ⟨(S.nm bd R.hp base n).2, injChunkN (S.nm bd R.hp base) s y⟩ ∧ (R.afterCall bd w S N2 o yc base).σ c = N2.σ n) ∨
    (ch = ⟨epOf R.hp c + 1, .row .u8 []⟩ ∧ (R.afterCall bd w S N2 o yc base).σ c = none) ∨
    (c ∉ namesOf (updIn (S.nm bd R.hp base) o.chunks yc) ∧ c ∉ namesOf (updGone bd R.hp S.fixed S.chunks) ∧ R.hp c = some ch ∧ (R.afterCall bd w S N2 o yc base).σ c = R.σ c) := by
  have hh : putHp (putHp R.hp (updGone bd R.hp S.fixed S.chunks)) (updIn (S.nm bd R.hp base) o.chunks yc) c = some ch := by
    rw [← putHp_append]; exact h
  by_cases h1 : c ∈ namesOf (updIn (S.nm bd R.hp base) o.chunks yc)
  · obtain ⟨ch', h2, h3⟩ := putHp_mem _ (hp := putHp R.hp (updGone bd R.hp S.fixed S.chunks)) h1
    rw [h3] at hh
    cases hh
    obtain ⟨n, s, y, k1, k2, k3, k4⟩ := upd_member H h2
    exact .inl ⟨n, s, y, k1, k2, k3, k4, by rw [k2]; exact sigma_in H k1⟩
  · rw [putHp_not _ h1] at hh
    have hs := sigma_out (w := w) (N2 := N2) h1
    by_cases h2 : c ∈ namesOf (updGone bd R.hp S.fixed S.chunks)
    · obtain ⟨ch', h3, h4⟩ := putHp_mem _ (hp := R.hp) h2
      rw [h4] at hh
      cases hh
      rw [if_pos h2] at hs
      exact .inr (.inl ⟨(updGone_mem h3).2, hs⟩)
    · rw [putHp_not _ h2] at hh
      rw [if_neg h2] at hs
      exact .inr (.inr ⟨h1, h2, hh, hs⟩)

theorem upd_unique {c : Nat} {ch ch' : Ch} (h : (c, ch) ∈ updIn (S.nm bd R.hp base) o.chunks yc) (h' : (c, ch') ∈ updIn (S.nm bd R.hp base) o.chunks yc) : ch = ch' := by
  obtain ⟨bd2, ok2, hp2, hp⟩ := H.prj2
  obtain ⟨n, s, y, a1, a2, a3, a4⟩ := updIn_mem hp h
  obtain ⟨n', s', y', b1, b2, b3, b4⟩ := updIn_mem hp h'
  have e1 := nm_inj H a1 b1 (a2.symm.trans b2)
  subst e1
  obtain rfl := distinct_unique H.dist2 a1 b1
  have e2 : y = y' := Option.some.inj (a3.symm.trans b3)
  rw [a4, b4, e2]

theorem hp_in {n : Nat} {s : CSh} (h : (n, s) ∈ o.chunks) : ∃ y : s.T, N2.hp n = some ⟨0, injChunk s y⟩ ∧ (R.afterCall bd w S N2 o yc base).hp (S.nm bd R.hp base n).1 = some ⟨(S.nm bd R.hp base n).2, injChunkN (S.nm bd R.hp base) s y⟩ := by
  obtain ⟨y, h1, h2⟩ := out_member H h
  refine ⟨y, h1, ?_⟩
  obtain ⟨ch', h3, h4⟩ := putHp_mem _ (hp := putHp R.hp (updGone bd R.hp S.fixed S.chunks)) (mem_names h2)
  have e := upd_unique H h2 h3
  rw [e, ← h4]
  show putHp R.hp (_ ++ _) _ = _
  rw [putHp_append]

theorem renames : Renames N2 (R.afterCall bd w S N2 o yc base) (S.nm bd R.hp base) (!S.borrow) := by
  refine ⟨fun n ch h => ?_, fun h b o' hb => afterF_N2 H (by simpa using h) b o' hb⟩
  rw [H.hp2] at h
  obtain ⟨bd2, ok2, hp2, hp⟩ := H.prj2
  obtain ⟨s, y, h1, _, _⟩ := injHp_some hp h
  obtain ⟨y', k1, k2⟩ := hp_in H h1
  rw [H.hp2, h] at k1
  cases k1
  exact ⟨rfl, _, k2, rfl, injChunkN_shape, sigma_in H h1⟩

theorem other_free {c : Nat} {ch : Ch} {L : Loc} (h1 : c ∉ namesOf (updIn (S.nm bd R.hp base) o.chunks yc)) (h2 : c ∉ namesOf (updGone bd R.hp S.fixed S.chunks)) (hc : R.hp c = some ch) (hm : ch.body.mut = true) (hL : R.σ c = some L) : ¬ R.bound bd L.block := by
  rintro ⟨n, c', ch', L', k1, k2, k3, k4, k5⟩
  have := H.hm.apart c' c ch' ch L' L k2 hc k3 hm k4 hL k5
  subst this
  rcases Nat.lt_or_ge n S.fixed with hn | hn
  · obtain ⟨_, s, hs⟩ := endOk_fixed H hn
    refine h1 (updIn_names.2 ⟨n, s, hs, ?_⟩)
    rw [nm_lt hn]
    simp only [nameOf, k1]
  · have hok := H.ok
    unfold Shape.bdOk at hok
    simp only [Bool.and_eq_true, List.all_eq_true, List.any_eq_true] at hok
    obtain ⟨p, hp, hpe⟩ := hok.1.2 _ (bdGet_mem' k1)
    have e1 : p.1 = n := Nat.eq_of_beq_eq_true hpe
    subst e1
    exact h2 (updGone_has (s := p.2) hp k1 hn)

end
end Sx
end Go.Proofs.Ytkngdfhigpjciaa

/- Functions by shapes: memory behind a call is in order; from a walk to what is known of the function. No statement of a seat is proved here. -/
namespace Go.Proofs.Ytkngdfhigpjciaa
namespace Sx
open Go

theorem cells_renamed {N R : Ctx} {ν : Nm} {lists : Bool} (hr : Renames N R ν lists) : ∀ {l : List Sh} (_ : lists = true ∨ l.any Sh.hasList = false) {x : ShT l} {us : List Value}, SV.relL N (injCells l x) us → SV.relL R (injCellsN ν l x) us
  | [], _, _, _, h => h
  | s :: r, hl, x, us, h => by
    have h1 : lists = true ∨ s.hasList = false := hl.imp_right fun e => by simp only [List.any_cons, Bool.or_eq_false_iff] at e; exact e.1
    have h2 : lists = true ∨ r.any Sh.hasList = false := hl.imp_right fun e => by simp only [List.any_cons, Bool.or_eq_false_iff] at e; exact e.2
    simp only [injCells] at h
    simp only [injCellsN]
    have hlen := SV.relL_length h
    have t1 := SV.relL_take h (injOne s x.1).length
    have t2 := SV.relL_drop h (injOne s x.1).length
    rw [List.take_left] at t1
    rw [List.drop_left] at t2
    have := SV.relL_append (one_renamed hr h1 t1) (cells_renamed hr h2 t2)
    rwa [List.take_append_drop] at this

section
variable {R : Ctx} {w w' : World} {S : FnSpec} {args : List SV} {bd : Bd} {xc : CShT S.chunks} {N N2 : Ctx} {o : OutSh} {yc : CShT o.chunks} {base : Nat}
variable (H : CallEnd R w w' S args bd xc N2 o yc base)
include H

theorem call_ext : R.Ext (R.afterCall bd w S N2 o yc base) := by
  refine ⟨afterF_F H, rfl, fun c ch hc => ?_⟩
  by_cases h1 : c ∈ namesOf (updIn (S.nm bd R.hp base) o.chunks yc)
  · obtain ⟨n, s, hs, rfl⟩ := updIn_names.1 h1
    obtain ⟨y, k1, k2⟩ := hp_in H hs
    refine ⟨_, k2, ?_⟩
    rcases Nat.lt_or_ge n S.fixed with hn | hn
    · obtain ⟨c', ch', ch2, g1, g2, g3, g4, g5, g6, g7, g8, _⟩ := fixed_chunk H hn
      have hσ := sigma_in H hs
      rw [nm_lt hn] at hc hσ ⊢
      simp only [g2] at hc hσ ⊢
      rw [g3] at hc
      cases hc
      rw [k1] at g5
      cases g5
      refine ⟨by rw [g4]; exact Nat.le_refl _, fun _ => ⟨?_, ?_⟩⟩
      · simp only [injChunkN_shape]; exact g7
      · rw [hσ, g8]
    · exfalso
      rcases (endOk_new H hs).2 with hq | hq
      · have : n < S.fixed := hq
        omega
      · rw [nm_ge hn] at hc
        have h2 : R.hp (base + (n - S.fixed)) = none := hq.2
        rw [h2] at hc
        cases hc
  · by_cases h2 : c ∈ namesOf (updGone bd R.hp S.fixed S.chunks)
    · obtain ⟨ch', h3, h4⟩ := putHp_mem _ (hp := R.hp) h2
      refine ⟨ch', ?_, ?_⟩
      · show putHp R.hp (_ ++ _) c = _
        rw [putHp_append, putHp_not _ h1, h4]
      · rw [(updGone_mem h3).2]
        have : epOf R.hp c = ch.ep := by simp only [epOf, hc]
        rw [this]
        exact ⟨Nat.le_succ _, fun e => absurd e (by simp)⟩
    · refine ⟨ch, ?_, Nat.le_refl _, fun _ => ⟨rfl, ?_⟩⟩
      · show putHp R.hp (_ ++ _) c = _
        rw [putHp_append, putHp_not _ h1, putHp_not _ h2, hc]
      · rw [sigma_out h1, if_neg h2]

theorem rep_after {s : CSh} {n : Nat} (h : (n, s) ∈ o.chunks) (t : Ty) (ht : s = .row t ∨ s = .frz t) : ∀ (x : t.T) (cs : List Value), Rep N2.F t x cs → Rep (R.afterF bd w N2) t x cs := fun x cs hr => by
  rcases endOk_lists H with hb | ⟨_, hq⟩
  · exact Rep_mono (afterF_N2 H hb) _ _ _ hr
  · have := (hq _ h).1
    refine Rep_noList t ?_ x cs hr
    rcases ht with rfl | rfl <;> exact this

theorem lists_of {s : CSh} {n : Nat} (h : (n, s) ∈ o.chunks) : (!S.borrow) = true ∨ s.hasList = false := by
  rcases endOk_lists H with hb | ⟨_, hq⟩
  · exact .inl (by rw [hb]; rfl)
  · exact .inr (hq _ h).1

theorem chunk_after {n : Nat} {s : CSh} {y : s.T} (hs : (n, s) ∈ o.chunks) (hn : N2.hp n = some ⟨0, injChunk s y⟩) {e : Nat} {c : Nat} (hσ : (R.afterCall bd w S N2 o yc base).σ c = N2.σ n) (hc : c = (S.nm bd R.hp base n).1) :
    ChOk (R.afterCall bd w S N2 o yc base) w' c ⟨e, injChunkN (S.nm bd R.hp base) s y⟩ := by
  have h0 := H.hm2.ch n _ hn
  have hrep := rep_after H hs
  have hgone := (endOk_new H hs).1
  cases s with
  | row t =>
    simp only [ChOk, injChunk, injChunkN] at h0 ⊢
    rw [hσ]
    refine ⟨h0.1, h0.2.1, ?_⟩
    cases hL : N2.σ n with
    | none => have := h0.2.2; rw [hL] at this; exact this
    | some L =>
      have := h0.2.2
      rw [hL] at this
      obtain ⟨c1, c2, arr, E, c3, c4, c5, c6⟩ := this
      obtain ⟨_, d2, d3, _⟩ := block_own H c1 c2
      exact ⟨d3, d2, arr, E, c3, c4, c5, fun i hi => hrep t (.inl rfl) _ _ (c6 i hi)⟩
  | frz t =>
    simp only [ChOk, injChunk, injChunkN] at h0 ⊢
    rw [hσ]
    refine ⟨h0.1, h0.2.1, ?_⟩
    cases hL : N2.σ n with
    | none => have := h0.2.2; rw [hL] at this; exact this
    | some L =>
      have := h0.2.2
      rw [hL] at this
      obtain ⟨arr, E, fz, c3, c4, c5, c6⟩ := this
      refine ⟨arr, E, fz, ?_, c4, c5, fun i hi => hrep t (.inr rfl) _ _ (c6 i hi)⟩
      show R.afterF bd w N2 L.block = _
      rcases endOk_lists H with hb | ⟨_, hq⟩
      · exact afterF_N2 H hb _ _ c3
      · have hf : n < S.fixed := (hq _ hs).2 rfl
        obtain ⟨c', ch', ch2, g1, g2, g3, g4, g5, g6, g7, g8, cs, g9, g10⟩ := fixed_chunk H hf
        have hfz := endOk_frz H hs g9 rfl hf
        have hmu : ch'.body.mut = false := by rw [← g10, ← hfz]; rfl
        obtain ⟨o', ho⟩ := (chunk_block H.hm g3 (by rw [← g8]; exact hL)).2 hmu
        have h1 := afterF_F H _ _ ho
        have h2 := afterF_heap H _ _ h1
        rw [H.hm2.F _ _ c3] at h2
        cases h2
        exact h1
  | cells l =>
    simp only [ChOk, injChunk, injChunkN] at h0 ⊢
    obtain ⟨L, h1, h2, h3, arr, E, h4, h5, h6, h7, h8⟩ := h0
    obtain ⟨_, d2, d3, _⟩ := block_own H h2 h3
    refine ⟨L, by rw [hσ]; exact h1, d3, d2, arr, E, h4, h5, h6.trans (injCellsN_length (l := l) (x := y)).symm, cells_renamed (renames H) ?_ h7, h8⟩
    exact lists_of H hs
  | gone => cases hgone

theorem call_mem : HpOk (R.afterCall bd w S N2 o yc base) w' := by
  refine ⟨afterF_heap H, fun b o' h => ?_, fun c ch hc => ?_, fun c c' ch ch' L L' h1 h2 m1 m2 s1 s2 hb => ?_, fun b o' h => ?_, by have h2 := H.hm2.env; rw [H.inU] at h2; exact h2⟩
  · have h1 := H.hm.U b o' h
    have hlt := (Array.getElem?_eq_some_iff.1 h1).1
    replace h : R.U b = some o' := h
    rw [H.old b hlt (fun hq => by rw [(bound_F H.hm hq).2] at h; cases h)]
    exact h1
  · rcases hp_cases H hc with ⟨n, s, y, k1, k2, k3, rfl, k5⟩ | ⟨rfl, k2⟩ | ⟨k1, k2, k3, k4⟩
    · exact chunk_after H k1 k3 k5 k2
    · simp only [ChOk]
      rw [k2]
      exact ⟨by decide, by simp, trivial⟩
    · have h0 := H.hm.ch c ch k3
      have hfree : ∀ L, ch.body.mut = true → R.σ c = some L → ¬ R.bound bd L.block := fun L hm hL => other_free H k1 k2 k3 hm hL
      obtain ⟨ep, body⟩ := ch
      cases body with
      | row t xs =>
        simp only [ChOk] at h0 ⊢
        rw [k4]
        refine ⟨h0.1, h0.2.1, ?_⟩
        cases hL : R.σ c with
        | none => have := h0.2.2; rw [hL] at this; exact this
        | some L =>
          have := h0.2.2
          rw [hL] at this
          obtain ⟨c1, c2, arr, E, c3, c4, c5, c6⟩ := this
          have hlt := (Array.getElem?_eq_some_iff.1 c3).1
          have hf := hfree L rfl hL
          refine ⟨?_, c2, arr, E, (H.old _ hlt hf).trans c3, c4, c5, fun i hi => Rep_mono (afterF_F H) _ _ _ (c6 i hi)⟩
          show R.afterF bd w N2 L.block = none
          unfold Ctx.afterF
          rw [if_pos ⟨hlt, hf⟩]
          exact c1
      | frz t xs =>
        simp only [ChOk] at h0 ⊢
        rw [k4]
        refine ⟨h0.1, h0.2.1, ?_⟩
        cases hL : R.σ c with
        | none => have := h0.2.2; rw [hL] at this; exact this
        | some L =>
          have := h0.2.2
          rw [hL] at this
          obtain ⟨arr, E, fz, c3, c4, c5, c6⟩ := this
          exact ⟨arr, E, fz, afterF_F H _ _ c3, c4, c5, fun i hi => Rep_mono (afterF_F H) _ _ _ (c6 i hi)⟩
      | cells vs =>
        simp only [ChOk] at h0 ⊢
        obtain ⟨L, hL, c1, c2, arr, E, c3, c4, c5, c6, c7⟩ := h0
        have hlt := (Array.getElem?_eq_some_iff.1 c3).1
        have hf := hfree L rfl hL
        refine ⟨L, k4.trans hL, ?_, c2, arr, E, (H.old _ hlt hf).trans c3, c4, c5, SV.relL_ext (call_ext H) _ _ c6, c7⟩
        show R.afterF bd w N2 L.block = none
        unfold Ctx.afterF
        rw [if_pos ⟨hlt, hf⟩]
        exact c1
  · have inn : ∀ (n : Nat) (s : CSh) (y : s.T) (L : Loc), N2.hp n = some ⟨0, injChunk s y⟩ → (injChunk s y).mut = true → N2.σ n = some L → w.heap.size ≤ L.block ∨ R.bound bd L.block := fun n s y L a1 a2 a3 => by
      have := (chunk_block H.hm2 a1 a3).1 a2
      exact (block_own H this.1 this.2).2.2.2
    have out : ∀ (c : Nat) (ch : Ch) (L : Loc), c ∉ namesOf (updIn (S.nm bd R.hp base) o.chunks yc) → c ∉ namesOf (updGone bd R.hp S.fixed S.chunks) → R.hp c = some ch → ch.body.mut = true → R.σ c = some L → L.block < w.heap.size ∧ ¬ R.bound bd L.block := fun c ch L a1 a2 a3 a4 a5 => by
      refine ⟨?_, other_free H a1 a2 a3 a4 a5⟩
      have h0 := H.hm.ch c ch a3
      obtain ⟨ep, body⟩ := ch
      cases body with
      | row t xs =>
        simp only [ChOk, a5] at h0
        obtain ⟨_, _, _, _, arr, E, c3, _⟩ := h0
        exact (Array.getElem?_eq_some_iff.1 c3).1
      | frz t xs => cases a4
      | cells vs =>
        simp only [ChOk] at h0
        obtain ⟨L', hL, _, _, arr, E, c3, _⟩ := h0
        rw [a5] at hL
        cases hL
        exact (Array.getElem?_eq_some_iff.1 c3).1
    rcases hp_cases H h1 with ⟨n, s, y, k1, k2, k3, rfl, k5⟩ | ⟨rfl, k2⟩ | ⟨k1, k2, k3, k4⟩ <;>
      rcases hp_cases H h2 with ⟨n', s', y', k1', k2', k3', rfl, k5'⟩ | ⟨rfl, k2'⟩ | ⟨k1', k2', k3', k4'⟩
    · rw [k5] at s1
      rw [k5'] at s2
      have a1 : (injChunk s y).mut = true := by rw [← injChunkN_mut]; exact m1
      have a2 : (injChunk s' y').mut = true := by rw [← injChunkN_mut]; exact m2
      have := H.hm2.apart n n' _ _ L L' k3 k3' a1 a2 s1 s2 hb
      rw [k2, k2', this]
    · rw [k2'] at s2; cases s2
    · rw [k5] at s1
      rw [k4'] at s2
      have a1 : (injChunk s y).mut = true := by rw [← injChunkN_mut]; exact m1
      have h3 := inn n s y L k3 a1 s1
      have h4 := out c' ch' L' k1' k2' k3' m2 s2
      rw [hb] at h3
      rcases h3 with h3 | h3
      · omega
      · exact absurd h3 h4.2
    · rw [k2] at s1; cases s1
    · rw [k2] at s1; cases s1
    · rw [k2] at s1; cases s1
    · rw [k5'] at s2
      rw [k4] at s1
      have a1 : (injChunk s' y').mut = true := by rw [← injChunkN_mut]; exact m2
      have h3 := inn n' s' y' L' k3' a1 s2
      have h4 := out c ch L k1 k2 k3 m1 s1
      rw [← hb] at h3
      rcases h3 with h3 | h3
      · omega
      · exact absurd h3 h4.2
    · rw [k2'] at s2; cases s2
    · rw [k4] at s1
      rw [k4'] at s2
      exact H.hm.apart c c' ch ch' L L' k3 k3' m1 m2 s1 s2 hb
  · replace h : R.afterF bd w N2 b = some o' := h
    show R.U b = none
    unfold Ctx.afterF at h
    split at h
    · exact H.hm.FU b o' h
    · rename_i hq
      cases hU : R.U b with
      | none => rfl
      | some o2 =>
        have hlt := (Array.getElem?_eq_some_iff.1 (H.hm.U b o2 hU)).1
        refine absurd ⟨hlt, fun hbd => ?_⟩ hq
        rw [(bound_F H.hm hbd).2] at hU
        cases hU

theorem call_after : After R (R.afterCall bd w S N2 o yc base) w' (updGone bd R.hp S.fixed S.chunks ++ updIn (S.nm bd R.hp base) o.chunks yc) :=
  ⟨call_ext H, rfl, call_mem H⟩

end
end Sx
end Go.Proofs.Ytkngdfhigpjciaa

/- Functions by shapes: from a walk to what is known of the function. No statement of a seat is proved here. -/
namespace Go.Proofs.Ytkngdfhigpjciaa
namespace Sx
open Go

theorem injSlots_length : ∀ {l : List (Nat × Sh)} {x : SlT l} {tm : List SV}, (injSlots l x tm).length = tm.length
  | [], _, _ => rfl
  | c :: r, x, tm => by simp only [injSlots, injSlots_length, List.length_set]

theorem injSlots_below : ∀ {rs : List Sh} {i j : Nat} {x : SlT (indexed j rs)} {tm : List SV}, i < j → (injSlots (indexed j rs) x tm)[i]? = tm[i]?
  | [], _, _, _, _, _ => rfl
  | s :: r, i, j, x, tm, h => by
    simp only [indexed, injSlots]
    refine (injSlots_below (rs := r) (i := i) (j := j + 1) (x := x.2) (by omega)).trans ?_
    rw [List.getElem?_set_ne (by omega)]

theorem results_renamed {N R : Ctx} {ν : Nm} {lists : Bool} (hr : Renames N R ν lists) : ∀ {rs : List Sh} (_ : lists = true ∨ rs.any Sh.hasList = false) {i : Nat} {y : SlT (indexed i rs)} {tm : List SV} {us : List Value}, tm.length = i + rs.length →
    SV.relL N (injSlots (indexed i rs) y tm) us → SV.relL R (FnSpec.emit.go ν i rs y) (us.drop i)
  | [], _, i, y, tm, us, hl, h => by
    have := SV.relL_length h
    simp only [indexed, injSlots] at this
    simp only [List.length_nil] at hl
    simp only [FnSpec.emit.go]
    rw [List.drop_eq_nil_of_le (by omega)]
    exact relL_nil
  | s :: r, hl', i, y, tm, us, hl, h => by
    have h1 : lists = true ∨ s.hasList = false := hl'.imp_right fun e => by simp only [List.any_cons, Bool.or_eq_false_iff] at e; exact e.1
    have h2 : lists = true ∨ r.any Sh.hasList = false := hl'.imp_right fun e => by simp only [List.any_cons, Bool.or_eq_false_iff] at e; exact e.2
    simp only [List.length_cons] at hl
    have hlen := SV.relL_length h
    rw [injSlots_length] at hlen
    have hi : i < us.length := by omega
    have ih := results_renamed hr h2 (i := i + 1) (y := y.2) (tm := tm.set i (injSlot s y.1)) (us := us) (by rw [List.length_set]; omega) h
    have hi2 : i < (injSlots (indexed i (s :: r)) y tm).length := by rw [injSlots_length]; omega
    have hv := SV.relL_get h i hi2 hi
    have hg : (injSlots (indexed i (s :: r)) y tm)[i] = injSlot s y.1 := by
      have : (injSlots (indexed i (s :: r)) y tm)[i]? = some (injSlot s y.1) := by
        simp only [indexed, injSlots]
        refine (injSlots_below (rs := r) (i := i) (j := i + 1) (x := y.2) (by omega)).trans ?_
        rw [List.getElem?_set_self (by omega)]
      rw [List.getElem?_eq_getElem hi2] at this
      exact Option.some.inj this
    rw [hg] at hv
    simp only [FnSpec.emit.go]
    rw [List.drop_eq_getElem_cons hi]
    simp only [SV.relL]
    exact ⟨_, _, rfl, slot_renamed hr h1 hv, ih⟩

theorem emit_length {ν : Nm} : ∀ {rs : List Sh} {i : Nat} {y : SlT (indexed i rs)}, (FnSpec.emit.go ν i rs y).length = rs.length
  | [], _, _ => rfl
  | s :: r, i, y => by simp only [FnSpec.emit.go, List.length_cons, emit_length]

/-- The results as they lie, apart. -/
theorem resL_rel {R : Ctx} {n : Nat} {x : SV} {v : Value} {l : List SV} (hv : SV.rel R x v) (hn : (resL n x).length = n) (hl : l.length = n) : ∃ us, SV.relL R (resL n x) us ∧ ∀ R', SV.relL R' l us → SV.rel R' (oneOf l) v := by
  unfold resL at hn ⊢
  cases hb : Nat.beq n 1
  · rw [hb] at hn
    simp only [cond_false] at hn ⊢
    have hne : n ≠ 1 := fun e => by subst e; cases hb
    cases x <;> simp only [List.length_replicate] at hn ⊢ <;> try omega
    case tup q =>
      simp only [SV.rel] at hv
      obtain ⟨vs, rfl, h1⟩ := hv
      refine ⟨vs, h1, fun R' h2 => ?_⟩
      cases l with
      | nil => simp only [oneOf, SV.rel]; exact ⟨vs, rfl, h2⟩
      | cons a l =>
        cases l with
        | nil => simp at hl; omega
        | cons b l => simp only [oneOf, SV.rel]; exact ⟨vs, rfl, h2⟩
  · have := Nat.eq_of_beq_eq_true hb
    subst this
    simp only [cond_true]
    refine ⟨[v], relL_single hv, fun R' h2 => ?_⟩
    cases l with
    | nil => simp at hl
    | cons a l =>
      cases l with
      | nil =>
        simp only [oneOf]
        obtain ⟨v', e, h⟩ := relL_one h2
        cases e
        exact h
      | cons b l => simp at hl

section
variable {P : Program} {te : TE} {Φ : Env} (hte : TeOk P te) (hΦ : EnvOk P Φ) (hany : AnyOk P te Φ)

theorem OutSh.shape_length {o : OutSh} {k : Nat} : (o.shape k).n = o.rs.length := rfl

/-- Behind a call: the caller's memory and the result. -/
theorem fn_end {R N1 : Ctx} {w w' : World} {S : FnSpec} {args : List SV} {x : S.T} {k d : Nat} (hm : HpOk R w) (hx : S.inp.prj ⟨args, R.hp⟩ = some x)
    (hk : S.chunks.all (fun c => Nat.blt c.1 k && !c.2.isGone) = true)
    (h1 : (R.named (R.insF (S.inp.bd ⟨args, R.hp⟩) S.borrow w) (R.insU (S.inp.bd ⟨args, R.hp⟩) S.borrow w) (S.inp.bd ⟨args, R.hp⟩) (injHp S.chunks x.2)).Ext N1) (hm1 : HpOk N1 w') {o : OutSh} {y : (o.shape S.fixed).T} {pan : Bool} {v : SV} {u : Value}
    (hv : SV.rel N1 v u) (hy : o.is y pan v N1.hp) (hend : S.endOk (S.inp.bd ⟨args, R.hp⟩) R.hp (fresh R.hp d) o = true) :
    ∃ R', After R R' w' (updGone (S.inp.bd ⟨args, R.hp⟩) R.hp S.fixed S.chunks ++ updIn (S.nm (S.inp.bd ⟨args, R.hp⟩) R.hp (fresh R.hp d)) o.chunks y.2) ∧
      SV.rel R' (oneOf (FnSpec.emit.indexedN (S.nm (S.inp.bd ⟨args, R.hp⟩) R.hp (fresh R.hp d)) o.rs y.1)) u := by
  obtain ⟨_, hy⟩ := hy
  unfold Shape.prj at hx
  dsimp only at hx
  generalize hbd : S.inp.bd ⟨args, R.hp⟩ = bd at *
  cases hb : S.inp.bdOk ⟨args, R.hp⟩ bd && Nat.beq args.length S.inp.n
  · rw [hb] at hx; cases hx
  · rw [hb] at hx
    rw [Bool.and_eq_true] at hb
    obtain ⟨hx1, hx2⟩ := pPair_some hx
    have hy' := hy
    unfold Shape.prj at hy'
    dsimp only at hy'
    cases hb2 : (o.shape S.fixed).bdOk ⟨resL o.rs.length v, N1.hp⟩ ((o.shape S.fixed).bd ⟨resL o.rs.length v, N1.hp⟩) && Nat.beq (resL o.rs.length v).length (o.shape S.fixed).n
    · rw [hb2] at hy'; cases hy'
    · rw [hb2] at hy'
      rw [Bool.and_eq_true] at hb2
      obtain ⟨hy1, hy2⟩ := pPair_some hy'
      have hlen : (resL o.rs.length v).length = o.rs.length := Nat.eq_of_beq_eq_true hb2.2
      obtain ⟨us, hus, hback⟩ := resL_rel (l := FnSpec.emit.indexedN (S.nm bd R.hp (fresh R.hp d)) o.rs y.1) hv hlen emit_length
      have hsm : Small ((R.named (R.insF bd S.borrow w) (R.insU bd S.borrow w) bd (injHp S.chunks x.2)).upTo S.fixed) (o.shape S.fixed).fixed := fun c ch hc => by
        replace hc : cond (Nat.blt c S.fixed) (injHp S.chunks x.2 c) none = some ch := hc
        cases hq : Nat.blt c S.fixed
        · rw [hq] at hc; cases hc
        · rw [hq] at hc
          refine ⟨blt_of hq, ?_⟩
          obtain ⟨s, y', g1, g2, g3⟩ := injHp_some hx2 (hc : injHp S.chunks x.2 c = some ch)
          have := (List.all_eq_true.1 hk) _ g1
          simp only [Bool.and_eq_true, Bool.not_eq_true'] at this
          rw [g3]
          cases s <;> first | rfl | (cases this.2; done)
      have hext : ((R.named (R.insF bd S.borrow w) (R.insU bd S.borrow w) bd (injHp S.chunks x.2)).upTo S.fixed).Ext N1 := ⟨h1.F, h1.U, fun c ch hc => by
        replace hc : cond (Nat.blt c S.fixed) (injHp S.chunks x.2 c) none = some ch := hc
        cases hq : Nat.blt c S.fixed
        · rw [hq] at hc; cases hc
        · rw [hq] at hc
          exact h1.ch c ch hc⟩
      obtain ⟨N2, g1, g2⟩ := Shape.weak (s := o.shape S.fixed) (a := { tmps := us.toArray, defers := [] }) hsm hext ⟨rfl, hm1, hus, rfl⟩ hy
      have hd2 : distinct (o.chunks.map (·.1)) = true := by
        have := hb2.1
        unfold Shape.bdOk at this
        simp only [Bool.and_eq_true] at this
        exact this.1.1.1
      have H : CallEnd R w w' S args bd x.2 N2 o y.2 (fresh R.hp d) := ⟨hm, hb.1, hx2, g1, g2.mem, g2.hp, ⟨_, _, _, hy2⟩, hd2, hend⟩
      refine ⟨R.afterCall bd w S N2 o y.2 (fresh R.hp d), call_after H, hback _ ?_⟩
      have ht := g2.tm
      have := results_renamed (renames H) (rs := o.rs) ?_ (i := 0) (y := y.1) (tm := List.replicate o.rs.length .junk) (us := us) (by simp) ht
      · exact this
      · rcases endOk_lists H with h | h
        · exact .inl (by rw [h]; rfl)
        · exact .inr h.1

include hte hΦ hany

theorem fn_ok {f : FuncId} {fn : Func} {c : Code} (hf : P.funcs[f]? = some fn) (hb : fn.body = some c) (hname : (fn.name == "runtime.NumGoroutine") = false) {S : FnSpec} {k : Nat} (hk : S.chunks.all (fun c => Nat.blt c.1 k && !c.2.isGone) = true) {Λ : Lam}
    (hΛ : ∀ R, Small R k → LamOk P R Λ c) {n : Nat} {pre : S.T → Bool} {F : S.T → OT S.Y}
    (h : ∀ x oy, pre x = true → (F x).run = some oy → ∃ K Kp, wpf te Φ Λ n fn (S.inp.inj x).tm (S.inp.inj x).hp K Kp ∧ (∀ v hp, K v hp → oy.1.is oy.2 false v hp) ∧ ∀ v hp, Kp v hp → oy.1.is oy.2 true v hp) : SummOk P f (S.summ pre F) := by
  refine ⟨⟨fn, hf, hname, by rw [hb]; rfl⟩, ?_⟩
  intro R w d args vs out hm hr hrun
  simp only [FnSpec.summ] at hrun
  split at hrun
  · cases hrun
  · rename_i x hx
    obtain ⟨hpre, h2⟩ := OT.run_guard hrun
    obtain ⟨oy, h3, h4⟩ := OT.run_bind h2
    unfold FnSpec.emit at h4
    dsimp only at h4
    obtain ⟨hend, h5⟩ := OT.run_guard h4
    obtain ⟨K, Kp, hwp, hK1, hK2⟩ := h x oy hpre h3
    have hx' := hx
    unfold Shape.prj at hx'
    dsimp only at hx'
    cases hbo : S.inp.bdOk ⟨args, R.hp⟩ (S.inp.bd ⟨args, R.hp⟩) && Nat.beq args.length S.inp.n
    · rw [hbo] at hx'; cases hx'
    · rw [hbo] at hx'
      rw [Bool.and_eq_true] at hbo
      obtain ⟨hx1, hx2⟩ := pPair_some hx'
      have hlen : args.length = S.inp.n := Nat.eq_of_beq_eq_true hbo.2
      have hN := named_ok (s := S.inp) (st := ⟨args, R.hp⟩) (F' := R.insF (S.inp.bd ⟨args, R.hp⟩) S.borrow w) (U' := R.insU (S.inp.bd ⟨args, R.hp⟩) S.borrow w) hbo.1 hx2 rfl hm (insF_F hm) (insF_ok hm) ins_mut (insF_heap hm) insU_heap ins_FU hm.env
      have hargs : SV.relL (R.named (R.insF (S.inp.bd ⟨args, R.hp⟩) S.borrow w) (R.insU (S.inp.bd ⟨args, R.hp⟩) S.borrow w) (S.inp.bd ⟨args, R.hp⟩) (injHp S.chunks x.2)) (S.inp.inj x).tm vs :=
        prjSlots_rel (s := S.inp) (st := ⟨args, R.hp⟩) hbo.1 hx2 rfl hm (insF_F hm) (insF_ok hm) hr hx1 (SV.relL_of (by rw [List.length_replicate, ← hlen]; exact SV.relL_length hr) fun i hi hi' => by simp [SV.rel])
      have hsm : Small (R.named (R.insF (S.inp.bd ⟨args, R.hp⟩) S.borrow w) (R.insU (S.inp.bd ⟨args, R.hp⟩) S.borrow w) (S.inp.bd ⟨args, R.hp⟩) (injHp S.chunks x.2)) k := fun c ch hc => by
        obtain ⟨s, y', g1, g2, g3⟩ := injHp_some hx2 (hc : injHp S.chunks x.2 c = some ch)
        have := (List.all_eq_true.1 hk) _ g1
        simp only [Bool.and_eq_true, Bool.not_eq_true'] at this
        refine ⟨blt_of this.1, ?_⟩
        rw [g3]
        cases s <;> first | rfl | (cases this.2; done)
      refine (wpf_sound hte hΦ hany hf hb (hΛ _ hsm) hN hargs hwp).mono fun en w' hp => ?_
      rcases hp with ⟨y, v, R₁, rfl, hx1, hm1, hv, hy⟩ | ⟨y, v, R₁, rfl, hx1, hm1, hv, hy⟩
      · replace hy := hK1 _ _ hy
        obtain ⟨R', a1, a2⟩ := fn_end hm hx hk hx1 hm1 hv hy hend
        rw [hy.1] at h5
        cases h5
        exact ⟨v, R', rfl, a1, a2⟩
      · replace hy := hK2 _ _ hy
        obtain ⟨R', a1, a2⟩ := fn_end hm hx hk hx1 hm1 hv hy hend
        rw [hy.1] at h5
        cases h5
        exact ⟨v, R', rfl, a1, a2⟩

end
end Sx
end Go.Proofs.Ytkngdfhigpjciaa

/- Functions by shapes, where memory has grown. No statement of a seat is proved here. -/
namespace Go.Proofs.Ytkngdfhigpjciaa
namespace Sx
open Go

theorem bdPut_get {b : Bd} {n m : Nat} {o o' : Option Nat} (h : bdGet b m = some o') : bdGet (bdPut b n o) m = some o' := by
  unfold bdPut
  split
  · exact h
  · rename_i hn
    simp only [bdGet]
    cases hb : Nat.beq n m
    · exact h
    · have := Nat.eq_of_beq_eq_true hb
      subst this
      rw [h] at hn
      cases hn

theorem bindPtrs_get : ∀ {ns : List Nat} {l : List SV} {b : Bd} {m : Nat} {o : Option Nat}, bdGet b m = some o → bdGet (bindPtrs ns l b) m = some o
  | [], _, _, _, _, h => h
  | n :: ns, [], _, _, _, h => h
  | n :: ns, y :: r, b, m, o, h => by
    cases y <;> simp only [bindPtrs] <;> first | exact h | exact bindPtrs_get (bdPut_get h)

theorem bindOne_get {s : Sh} {x : SV} {b : Bd} {m : Nat} {o : Option Nat} (h : bdGet b m = some o) : bdGet (bindOne s x b) m = some o := by
  unfold bindOne
  split <;> first | exact h | exact bdPut_get h | exact bindPtrs_get h

theorem bindCells_get : ∀ {l : List Sh} {cs : List SV} {b : Bd} {m : Nat} {o : Option Nat}, bdGet b m = some o → bdGet (bindCells l cs b) m = some o
  | [], _, _, _, _, h => h
  | s :: r, cs, b, m, o, h => by
    simp only [bindCells]
    exact bindCells_get (bindOne_get h)

theorem bindChunks_get {hp : Hp} : ∀ {l : List (Nat × CSh)} {b : Bd} {m : Nat} {o : Option Nat}, bdGet b m = some o → bdGet (bindChunks hp l b) m = some o
  | [], _, _, _, h => h
  | (n, s) :: r, b, m, o, h => by
    cases s <;> simp only [bindChunks]
    case cells l =>
      refine bindChunks_get ?_
      split
      · split
        · exact bindCells_get h
        · exact h
      · exact h
    all_goals exact bindChunks_get h

section
variable {d : Nat} {hp hp' : Hp} (hg : Grown d hp hp')
include hg

theorem bindChunks_grown : ∀ {l : List (Nat × CSh)} {b : Bd}, (∀ q ∈ l, ∀ c, bdGet (bindChunks hp l b) q.1 = some (some c) → hp c ≠ none) → bindChunks hp' l b = bindChunks hp l b
  | [], _, _ => rfl
  | (n, s) :: r, b, h => by
    cases s <;> simp only [bindChunks] at h ⊢
    case cells l =>
      have e : (match bdGet b n with | some (some c) => (match hp' c with | some ⟨_, .cells vs⟩ => bindCells l vs b | _ => b) | _ => b) = (match bdGet b n with | some (some c) => (match hp c with | some ⟨_, .cells vs⟩ => bindCells l vs b | _ => b) | _ => b) := by
        split
        · rename_i c hc
          have h1 := h (n, .cells l) (by simp) c (bindChunks_get (by
            split
            · split
              · exact bindCells_get hc
              · exact hc
            · exact hc))
          cases hq : hp c with
          | none => exact absurd hq h1
          | some ch => rw [hg.keep _ _ hq]
        · rfl
      exact (congrArg (bindChunks hp' r) e).trans (bindChunks_grown fun q hq c hc => h q (List.mem_cons_of_mem _ hq) c hc)
    all_goals exact bindChunks_grown fun q hq c hc => h q (List.mem_cons_of_mem _ hq) c hc

theorem isNow_grown {bd : Bd} {n c e : Nat} (h : isNow bd hp n c e = true) : isNow bd hp' n c e = true := by
  unfold isNow at h ⊢
  split at h
  · rename_i c' hc
    rw [Bool.and_eq_true] at h
    have h2 := h.2
    split at h2
    · rename_i ch hch
      rw [hg.keep _ _ hch]
      simp only
      rw [h.1, h2]
      rfl
    · cases h2
  · cases h

theorem arePtrs_grown {bd : Bd} : ∀ {ns : List Nat} {l : List SV}, arePtrs bd hp ns l = true → arePtrs bd hp' ns l = true
  | [], [], _ => rfl
  | [], _ :: _, h => by cases h
  | n :: ns, [], h => by cases h
  | n :: ns, y :: r, h => by
    cases y <;> simp only [arePtrs] at h ⊢ <;> try (cases h; done)
    simp only [Bool.and_eq_true] at h ⊢
    exact ⟨⟨⟨isNow_grown hg h.1.1.1, h.1.1.2⟩, h.1.2⟩, arePtrs_grown h.2⟩

theorem isOne_grown {bd : Bd} {s : Sh} {cs : List SV} (h : isOne bd hp s cs = true) : isOne bd hp' s cs = true := by
  unfold isOne at h ⊢
  split at h
  · exact isNow_grown hg h
  · exact h
  · simp only [Bool.and_eq_true] at h ⊢
    exact ⟨⟨isNow_grown hg h.1.1, h.1.2⟩, h.2⟩
  · simp only [Bool.and_eq_true] at h ⊢
    exact ⟨h.1, arePtrs_grown hg h.2⟩
  · rfl
  · rfl
  · rfl
  · cases h

theorem asListK_grown {ok : Nat → Bool} {t : Ty} {x : SV} {ys : List t.T} (h : asListK ok t hp x = some ys) : asListK ok t hp' x = some ys := by
  have key : ∀ {c : Nat} {f : Option Ch → Option (List t.T)}, f none = none → f (hp c) = some ys → f (hp' c) = some ys := fun {c f} h0 h => by
    cases hq : hp c with
    | none => rw [hq, h0] at h; cases h
    | some ch => rw [hg.keep _ _ hq, ← hq]; exact h
  cases x <;> simp only [asListK] at h ⊢ <;> try (first | exact h | (cases h; done))
  case own c e => exact key (c := c) (f := fun o => match o with | some ⟨ep, .row t' xs⟩ => cond (Nat.beq ep e && ok c) (rowList t t' xs) none | some ⟨ep, .frz t' xs⟩ => cond (Nat.beq ep e) (rowList t t' xs) none | _ => none) rfl h
  case clip c e => exact key (c := c) (f := fun o => match o with | some ⟨ep, .row t' xs⟩ => cond (Nat.beq ep e && ok c) (rowList t t' xs) none | some ⟨ep, .frz t' xs⟩ => cond (Nat.beq ep e) (rowList t t' xs) none | _ => none) rfl h
  case part c e off len => exact key (c := c) (f := fun o => match o with | some ⟨ep, .row t' xs⟩ => cond (Nat.beq ep e && ok c) ((rowList t t' xs).map fun l => (l.drop off).take len) none | some ⟨ep, .frz t' xs⟩ => cond (Nat.beq ep e) ((rowList t t' xs).map fun l => (l.drop off).take len) none | _ => none) rfl h

theorem packK_grown {ok : Nat → Bool} : ∀ {t : Ty} {cs : List SV} {x : t.T}, packK ok hp t cs = some x → packK ok hp' t cs = some x
  | .bool, _, _, h => h
  | .u64, _, _, h => h
  | .u8, _, _, h => h
  | .int, _, _, h => h
  | .str, _, _, h => h
  | .elem, _, _, h => h
  | .prod a b, cs, x, h => by
    obtain ⟨h1, h2⟩ := pPair_some h
    simp only [packK, packK_grown h1, packK_grown h2, pPair]
  | .arr n t, cs, x, h => by
    simp only [packK] at h ⊢
    split at h
    · rename_i hl
      rw [if_pos hl]
      exact mapM_grown (fun _ _ => packK_grown) h
    · cases h
  | .list t, cs, x, h => by
    simp only [packK] at h ⊢
    split at h
    · rename_i hp0
      rw [if_pos hp0]
      obtain ⟨y, rfl, hy⟩ := pOne_some h
      simp only [pOne]
      exact asListK_grown hg hy
    · cases h

omit hg in
theorem optIf_grown {a b : Bool} {x : Unit} (hab : a = true → b = true) (h : optIf a = some x) : optIf b = some x := by
  rw [hab (optIf_some h)]; rfl

theorem prjOne_grown {bd : Bd} {ok : Nat → Bool} {s : Sh} {cs : List SV} {x : s.T} (h : prjOne bd ok hp s cs = some x) : prjOne bd ok hp' s cs = some x := by
  cases s <;> simp only [prjOne] at h ⊢
  case val b t => exact packK_grown hg h
  all_goals exact optIf_grown (isOne_grown hg) h

theorem prjSlot_grown {bd : Bd} {ok : Nat → Bool} {s : Sh} {y : SV} {x : s.T} (h : prjSlot bd ok hp s y = some x) : prjSlot bd ok hp' s y = some x := by
  unfold prjSlot at h ⊢
  split at h
  · exact prjOne_grown hg h
  · cases h

theorem prjCells_grown {bd : Bd} {ok : Nat → Bool} : ∀ {l : List Sh} {cs : List SV} {x : ShT l}, prjCells bd ok hp l cs = some x → prjCells bd ok hp' l cs = some x
  | [], [], _, h => h
  | [], _ :: _, _, h => by cases h
  | s :: r, cs, x, h => by
    obtain ⟨h1, h2⟩ := pPair_some (show pPair (prjOne bd ok hp s (cs.take s.size)) (prjCells bd ok hp r (cs.drop s.size)) = some x from h)
    show pPair (prjOne bd ok hp' s (cs.take s.size)) (prjCells bd ok hp' r (cs.drop s.size)) = some x
    rw [prjOne_grown hg h1, prjCells_grown h2]
    rfl

theorem prjSlots_grown {bd : Bd} {ok : Nat → Bool} {tm : List SV} : ∀ {l : List (Nat × Sh)} {x : SlT l}, prjSlots bd ok hp tm l = some x → prjSlots bd ok hp' tm l = some x
  | [], _, h => h
  | c :: r, x, h => by
    obtain ⟨h1, h2⟩ := pPair_some h
    simp only [prjSlots, prjSlot_grown hg h1, prjSlots_grown h2, pPair]
    rfl

theorem prjChunk_grown {bd : Bd} {ok : Nat → Bool} {s : CSh} {b : Chunk} {x : s.T} (h : prjChunk bd ok hp s b = some x) : prjChunk bd ok hp' s b = some x := by
  cases s <;> cases b <;> simp only [prjChunk] at h ⊢ <;> first | exact h | exact prjCells_grown hg h

theorem prjOld_grown {bd : Bd} {ok : Nat → Bool} {n : Nat} {s : CSh} {x : s.T} (h : prjOld bd ok hp n s = some x) : prjOld bd ok hp' n s = some x := by
  unfold prjOld at h ⊢
  split at h
  · split at h
    · rename_i ch hch
      rw [hg.keep _ _ hch]
      exact prjChunk_grown hg h
    · cases h
  · exact h
  · exact h

theorem prjChunks_grown {bd : Bd} {ok : Nat → Bool} : ∀ {l : List (Nat × CSh)} {x : CShT l}, prjChunks bd ok hp l = some x → prjChunks bd ok hp' l = some x
  | [], _, h => h
  | c :: r, x, h => by
    obtain ⟨h1, h2⟩ := pPair_some h
    simp only [prjChunks, prjOld_grown hg h1, prjChunks_grown h2, pPair]
    rfl

omit hg in
theorem prjChunks_old {bd : Bd} {ok : Nat → Bool} : ∀ {l : List (Nat × CSh)} {x : CShT l}, prjChunks bd ok hp l = some x → ∀ q ∈ l, ∀ c, bdGet bd q.1 = some (some c) → hp c ≠ none
  | [], _, _, _, hq, _, _ => by cases hq
  | c :: r, x, h, q, hq, c', hb => by
    obtain ⟨h1, h2⟩ := pPair_some h
    rcases List.mem_cons.1 hq with he | he
    · subst he
      unfold prjOld at h1
      rw [hb] at h1
      simp only at h1
      intro hn
      rw [hn] at h1
      cases h1
    · exact prjChunks_old h2 q he c' hb

theorem prj_grown {s : Shape} (hfx : s.fixed = 0) {tm : List SV} {x : s.T} (h : s.prj ⟨tm, hp⟩ = some x) : s.prj ⟨tm, hp'⟩ = some x ∧ s.bd ⟨tm, hp'⟩ = s.bd ⟨tm, hp⟩ := by
  unfold Shape.prj at h ⊢
  dsimp only at h ⊢
  cases hb : s.bdOk ⟨tm, hp⟩ (s.bd ⟨tm, hp⟩) && Nat.beq tm.length s.n
  · rw [hb] at h; cases h
  · rw [hb] at h
    obtain ⟨h1, h2⟩ := pPair_some h
    have e : s.bd ⟨tm, hp'⟩ = s.bd ⟨tm, hp⟩ := bindChunks_grown hg (prjChunks_old h2)
    have e2 : s.bdOk ⟨tm, hp'⟩ (s.bd ⟨tm, hp⟩) = s.bdOk ⟨tm, hp⟩ (s.bd ⟨tm, hp⟩) := by
      unfold Shape.bdOk
      rw [hfx]
      rfl
    refine ⟨?_, e⟩
    rw [e, e2, hb, cond_true, prjSlots_grown hg h1, prjChunks_grown hg h2]
    rfl

theorem epOf_grown {c : Nat} (h : hp c ≠ none) : epOf hp' c = epOf hp c := by
  unfold epOf
  cases hq : hp c with
  | none => exact absurd hq h
  | some ch => rw [hg.keep _ _ hq]

theorem updGone_grown {bd : Bd} {fixed : Nat} : ∀ {l : List (Nat × CSh)}, (∀ q ∈ l, ∀ c, bdGet bd q.1 = some (some c) → hp c ≠ none) → updGone bd hp' fixed l = updGone bd hp fixed l
  | [], _ => rfl
  | c :: r, h => by
    have ih := updGone_grown (bd := bd) (fixed := fixed) (l := r) fun q hq => h q (List.mem_cons_of_mem _ hq)
    simp only [updGone, ih]
    cases Nat.blt c.1 fixed
    · simp only [cond_false]
      split
      · rename_i o ho
        rw [epOf_grown hg (h c (by simp) o ho)]
      · rfl
    · rfl

theorem fn_grown {S : FnSpec} {pre : S.T → Bool} {F : S.T → OT S.Y} {args : List SV} {out : Out} (h : ((S.summ pre F).f d args hp).run = some out) : ((S.summ pre F).f d args hp').run = some out := by
  simp only [FnSpec.summ] at h ⊢
  split at h
  · cases h
  · rename_i x hx
    obtain ⟨e1, e2⟩ := prj_grown hg (s := S.inp) rfl hx
    rw [e1]
    simp only
    rw [e2]
    obtain ⟨h1, h2⟩ := OT.run_guard h
    rw [h1]
    obtain ⟨oy, h3, h4⟩ := OT.run_bind h2
    have hold : ∀ q ∈ S.chunks, ∀ c, bdGet (S.inp.bd ⟨args, hp⟩) q.1 = some (some c) → hp c ≠ none := by
      have hx' := hx
      unfold Shape.prj at hx'
      dsimp only at hx'
      cases hb : S.inp.bdOk ⟨args, hp⟩ (S.inp.bd ⟨args, hp⟩) && Nat.beq args.length S.inp.n
      · rw [hb] at hx'; cases hx'
      · rw [hb] at hx'
        obtain ⟨_, h2⟩ := pPair_some hx'
        exact prjChunks_old h2
    have hbok : ∀ p ∈ S.inp.bd ⟨args, hp⟩, ∃ q ∈ S.chunks, q.1 = p.1 := by
      have hx' := hx
      unfold Shape.prj at hx'
      dsimp only at hx'
      cases hb : S.inp.bdOk ⟨args, hp⟩ (S.inp.bd ⟨args, hp⟩) && Nat.beq args.length S.inp.n
      · rw [hb] at hx'; cases hx'
      · rw [Bool.and_eq_true] at hb
        have := hb.1
        unfold Shape.bdOk at this
        simp only [Bool.and_eq_true, List.all_eq_true, List.any_eq_true] at this
        intro p hp
        obtain ⟨q, hq, he⟩ := this.1.2 p hp
        exact ⟨q, hq, Nat.eq_of_beq_eq_true he⟩
    have hepN : ∀ n c, bdGet (S.inp.bd ⟨args, hp⟩) n = some (some c) → epOf hp' c = epOf hp c := fun n c hc => by
      obtain ⟨q, hq, he⟩ := hbok _ (bdGet_mem' hc)
      exact epOf_grown hg (hold q hq c (by rw [he]; exact hc))
    unfold FnSpec.emit at h4
    dsimp only at h4
    obtain ⟨hend, h5⟩ := OT.run_guard h4
    -- the names
    have hfr : fresh hp' d = fresh hp d := fresh_grown hg
    have hnm : ∀ n, S.fixed ≤ n ∨ (∃ c, bdGet (S.inp.bd ⟨args, hp⟩) n = some (some c)) → S.nm (S.inp.bd ⟨args, hp⟩) hp' (fresh hp d) n = S.nm (S.inp.bd ⟨args, hp⟩) hp (fresh hp d) n := fun n hn => by
      unfold FnSpec.nm
      cases hb : Nat.blt n S.fixed
      · rfl
      · rcases hn with hn | ⟨c, hn⟩
        · have := blt_of hb; omega
        · simp only [cond_true, nameOf, hn, hepN n c hn]
    have hnmall : S.nm (S.inp.bd ⟨args, hp⟩) hp' (fresh hp d) = S.nm (S.inp.bd ⟨args, hp⟩) hp (fresh hp d) := by
      funext n
      rcases Nat.lt_or_ge n S.fixed with hn | hn
      · refine hnm n (.inr ?_)
        have he := hend
        unfold FnSpec.endOk at he
        simp only [Bool.and_eq_true, List.all_eq_true] at he
        have h6 := (he.2.1 n (by simpa using hn)).1
        split at h6
        · rename_i c hc; exact ⟨c, hc⟩
        · cases h6
      · exact hnm n (.inl hn)
    have hend' : S.endOk (S.inp.bd ⟨args, hp⟩) hp' (fresh hp d) oy.1 = true := by
      have he := hend
      unfold FnSpec.endOk at he ⊢
      simp only [Bool.and_eq_true] at he ⊢
      refine ⟨he.1, he.2.1, he.2.2.1, ?_⟩
      have h6 := he.2.2.2
      simp only [List.all_eq_true, Bool.and_eq_true, Bool.or_eq_true] at h6 ⊢
      intro q hq
      refine ⟨(h6 q hq).1, (h6 q hq).2.imp_right fun h7 => ⟨h7.1, ?_⟩⟩
      have h8 := h7.2
      have hlt := blt_of h7.1
      cases hz : hp (fresh hp d + (q.1 - S.fixed)) with
      | some ch => rw [hz] at h8; cases h8
      | none =>
        rw [hg.free _ ?_ hz]
        · rfl
        · obtain ⟨k, hk1, hk2⟩ : ∃ k, k ≤ 4000 ∧ fresh hp d = (d + 1) * 4096 + k := by
            have : ∀ (n k : Nat), n + k ≤ 4000 → ∃ j, j ≤ 4000 ∧ freshFrom hp d n k = (d + 1) * 4096 + j := by
              intro n
              induction n with
              | zero => intro k hk; exact ⟨k, by omega, rfl⟩
              | succ n ih =>
                intro k hk
                simp only [freshFrom]
                split
                · exact ⟨k, by omega, rfl⟩
                · exact ih (k + 1) (by omega)
            exact this 4000 0 (by omega)
          rw [hk2]
          unfold inBlk
          omega
    have hem : (S.emit (S.inp.bd ⟨args, hp⟩) d hp' oy.1 oy.2).run = some out := by
      unfold FnSpec.emit
      dsimp only
      rw [hfr, hend', hnmall, updGone_grown hg hold]
      exact h5
    have hbind : ∀ {α β : Type} (t : OT α) (f : α → OT β) (a : α) (b : β), t.run = some a → (f a).run = some b → (t.bind f).run = some b := by
      intro α β t f a b h1 h2
      induction t with
      | ok a' => cases h1; exact h2
      | br c u v hu hv =>
        cases c
        · exact hv h1
        · exact hu h1
      | fail => cases h1
    exact hbind (F x) _ oy out h3 hem

end

theorem fn_mono {S : FnSpec} {pre : S.T → Bool} {F : S.T → OT S.Y} : MonoOk (S.summ pre F) := fun _ _ _ _ _ hg h => fn_grown hg h

end Sx
end Go.Proofs.Ytkngdfhigpjciaa

/- Trees of tests: a loop's step and a function's walk as trees; what a loop makes of a state. No statement of a seat is proved here. -/
namespace Go.Proofs.Ytkngdfhigpjciaa
namespace Sx
open Go

/-- The same, in a form that the kernel does not try to match part by part ahead of time. -/
def OT.wpR {α : Type} (t : OT α) (K : α → Prop) : Prop :=
  OT.rec (motive := fun _ => Prop) (fun a => K a) (fun b _ _ x y => Bool.rec (motive := fun _ => Prop) y x b) False t

theorem OT.wpR_eq {α : Type} (t : OT α) (K : α → Prop) : t.wpR K = t.wp K := by
  induction t with
  | ok b => rfl
  | br b x y hx hy =>
    cases b
    · exact hy
    · exact hx
  | fail => rfl

theorem OT.wp_of_run {α : Type} {t : OT α} {a : α} {K : α → Prop} (h : t.run = some a) (hk : K a) : t.wp K := by
  induction t with
  | ok b => cases h; exact hk
  | br b x y hx hy =>
    cases b
    · exact hy h
    · exact hx h
  | fail => cases h

def codeOf (fn : Func) : Code := fn.body.getD .skip

/-- How a loop's body ends: on with the loop, or with what is kept of the state at an end. -/
abbrev LEnd := Sigma fun p : SE × Shape => p.2.T

def stepK (sh : Shape) (xs : SE → Option Shape) (Q : Sum sh.T LEnd → Prop) (e : SE) (st : St) : Prop := match e with
  | .normal => sh.on st fun s => Q (.inl s)
  | e => match xs e with
    | none => False
    | some s => s.on st fun x => Q (.inr ⟨(e, s), x⟩)

/-- A loop, so many rounds at most. -/
def loopRun {σ ε : Type} (T : σ → OT (Sum σ ε)) : Nat → σ → Option ε
  | 0, _ => none
  | n + 1, s => match (T s).run with
    | some (.inl s') => loopRun T n s'
    | some (.inr e) => some e
    | none => none

/-- What a loop makes of a state, for those around it. -/
def loopF (sh : Shape) (id : Nat) (ok : sh.T → Bool) (f : sh.T → OT LEnd) (st : St) (K : SE → St → Prop) : Prop :=
  sh.on st fun s => cond (ok s) ((f s).wp fun e => K (exitIn id e.1.1) (e.1.2.inj e.2)) False

section
variable {P : Program} {te : TE} {Φ : Env} (hte : TeOk P te) (hΦ : EnvOk P Φ) (hany : AnyOk P te Φ)
include hte hΦ hany

theorem loop_run {R₀ : Ctx} {sh : Shape} (h0 : Small R₀ sh.fixed) {xs : SE → Option Shape} (hxs : ∀ e s, xs e = some s → Small R₀ s.fixed) (hpan : ∀ v, xs (.pan v) = none) {Λ : Lam} {body : Code} (hΛ : LamOk P R₀ Λ body)
    {id n : Nat} {T : sh.T → OT (Sum sh.T LEnd)} (hT : ∀ s Q, wps te Φ Λ n body (sh.inj s) (stepK sh xs Q) = (T s).wpR Q) :
    BlockOk P R₀ (.block id (.loop body)) fun st K => sh.on st fun s => ∃ m e, loopRun T m s = some e ∧ K (exitIn id e.1.1) (e.1.2.inj e.2) := by
  intro R st a w K Q hx hst hl hK
  obtain ⟨s, R', ⟨m, e, hr, hk⟩, hx', hst'⟩ := Shape.on_weak h0 hx hst hl
  refine wp_block (wp_of_loopIn ?_)
  clear hl hst hx
  induction m generalizing s R' a w with
  | zero => cases hr
  | succ m ih =>
    simp only [loopRun] at hr
    cases ht : (T s).run with
    | none => rw [ht] at hr; cases hr
    | some o =>
      rw [ht] at hr
      have hw : wps te Φ Λ n body (sh.inj s) (stepK sh xs (fun z => z = o)) := by
        rw [hT, OT.wpR_eq]; exact OT.wp_of_run ht rfl
      refine loopIn_step (wps_sound (R₀ := R₀) hte hΦ hany hΛ hx' hst' hw ⟨?_, ?_, ?_, ?_⟩)
      · intro R1 st1 a1 w1 hx1 hst1 hk1
        obtain ⟨s', R2, g1, g4, g5⟩ := Shape.on_weak h0 hx1 hst1 (hk1 : sh.on st1 _)
        subst g1
        exact ih a1 w1 s' R2 hr g4 g5
      · intro R1 st1 a1 w1 hx1 hst1 hk1
        simp only [stepK] at hk1
        split at hk1
        · exact hk1.elim
        · rename_i sh' he
          obtain ⟨x, R2, g1, g2, g3⟩ := Shape.on_weak (hxs _ sh' he) hx1 hst1 hk1
          subst g1
          cases hr
          exact hK.ret R2 _ a1 w1 g2 g3 hk
      · intro R1 st1 a1 w1 j hx1 hst1 hk1
        simp only [stepK] at hk1
        split at hk1
        · exact hk1.elim
        · rename_i sh' he
          obtain ⟨x, R2, g1, g2, g3⟩ := Shape.on_weak (hxs _ sh' he) hx1 hst1 hk1
          subst g1
          cases hr
          simp only [exitIn] at hk
          simp only [Exit.inBlock]
          by_cases e : j = id
          · subst e
            rw [Nat.beq_refl, cond_true] at hk
            simp only [if_true]
            exact hK.normal R2 _ a1 w1 g2 g3 hk
          · have hb : Nat.beq j id = false := by
              cases hq : Nat.beq j id
              · rfl
              · exact absurd (Nat.eq_of_beq_eq_true hq) e
            rw [hb, cond_false] at hk
            simp only [e, if_false]
            exact hK.exit R2 _ a1 w1 j g2 g3 hk
      · intro R1 st1 a1 w1 sv v hx1 hst1 hv hk1
        simp only [stepK, hpan] at hk1

/-- A loop of which it is known what it makes of a state. -/
theorem loop_ok {R₀ : Ctx} {sh : Shape} (h0 : Small R₀ sh.fixed) {xs : SE → Option Shape} (hxs : ∀ e s, xs e = some s → Small R₀ s.fixed) (hpan : ∀ v, xs (.pan v) = none) {Λ : Lam} {body : Code} (hΛ : LamOk P R₀ Λ body)
    {id n : Nat} {T : sh.T → OT (Sum sh.T LEnd)} (hT : ∀ s Q, wps te Φ Λ n body (sh.inj s) (stepK sh xs Q) = (T s).wpR Q) {ok : sh.T → Bool} {f : sh.T → OT LEnd}
    (hf : ∀ s, ok s = true → ∃ m e, loopRun T m s = some e ∧ (f s).run = some e) : BlockOk P R₀ (.block id (.loop body)) (loopF sh id ok f) := by
  intro R st a w K Q hx hst hl hK
  refine loop_run hte hΦ hany h0 hxs hpan hΛ hT (id := id) R st a w K Q hx hst ?_ hK
  unfold loopF at hl
  unfold Shape.on at hl ⊢
  split at hl
  · rename_i s hs
    cases ho : ok s
    · rw [ho] at hl; exact hl.elim
    · rw [ho] at hl
      obtain ⟨m, e, h1, h2⟩ := hf s ho
      obtain ⟨e', h3, h4⟩ := OT.wp_run hl
      rw [h2] at h3
      cases h3
      rw [hs]
      exact ⟨m, e, h1, h4⟩
  · exact hl.elim

/-- The ends of a function, by what it returns. -/
def fnK (S : FnSpec) (sel : SV → Option OutSh) (Q : S.Y → Prop) (v : SV) (hp : Hp) : Prop := match sel v with
  | some o => match (o.shape S.fixed).prj ⟨resL o.rs.length v, hp⟩ with
    | some y => Q ⟨o, y⟩
    | none => False
  | none => False

/-- A function by a tree. -/
theorem fn_tree {f : FuncId} {fn : Func} {c : Code} (hf : P.funcs[f]? = some fn) (hb : fn.body = some c) (hname : (fn.name == "runtime.NumGoroutine") = false) {S : FnSpec} {k : Nat} (hk : S.chunks.all (fun c => Nat.blt c.1 k && !c.2.isGone) = true) {Λ : Lam}
    (hΛ : ∀ R, Small R k → LamOk P R Λ c) {n : Nat} {sel : SV → Option OutSh} (hsel : ∀ v o, sel v = some o → o.pan = false) {pre : S.T → Bool} {F T : S.T → OT S.Y}
    (h : ∀ x Q, wpf te Φ Λ n fn (S.inp.inj x).tm (S.inp.inj x).hp (fnK S sel Q) (fun _ _ => False) = (T x).wpR Q)
    (hF : ∀ x oy, pre x = true → (F x).run = some oy → (T x).run = some oy) : SummOk P f (S.summ pre F) := by
  refine fn_ok hte hΦ hany hf hb hname hk hΛ (n := n) fun x oy hp hr => ⟨fnK S sel (fun z => z = oy), fun _ _ => False, ?_, fun v hp hq => ?_, fun _ _ hq => hq.elim⟩
  · rw [h, OT.wpR_eq]; exact OT.wp_of_run (hF x oy hp hr) rfl
  · unfold fnK at hq
    split at hq
    · rename_i o ho
      split at hq
      · rename_i y hy
        subst hq
        exact ⟨hsel v o ho, hy⟩
      · exact hq.elim
    · exact hq.elim

end
end Sx
end Go.Proofs.Ytkngdfhigpjciaa

/- The table of types is so: what is to be asked of the kernel for each type. No statement of a seat is proved here. -/
namespace Go.Proofs.Ytkngdfhigpjciaa
namespace Sx
open Go

/-- The cells of a type's zero. -/
def zeroCells : Ty → List Value
  | .bool => [.bool false]
  | .u64 => [vu64 0]
  | .u8 => [vu8 0]
  | .int => [.int .i64 0]
  | .str => [.string ⟨#[]⟩]
  | .elem => [vu64 0, vu64 0, vu64 0, vu64 0]
  | .prod a b => zeroCells a ++ zeroCells b
  | .arr n t => (List.replicate n (zeroCells t)).flatten
  | .list _ => [.slice none 0 0]

theorem zeroCells_length : ∀ t : Ty, (zeroCells t).length = t.size
  | .bool => rfl
  | .u64 => rfl
  | .u8 => rfl
  | .int => rfl
  | .str => rfl
  | .elem => rfl
  | .prod a b => by simp only [zeroCells, List.length_append, zeroCells_length a, zeroCells_length b, Ty.size]
  | .arr n t => by simp [zeroCells, zeroCells_length t, Ty.size]
  | .list _ => rfl

theorem flatten_seg {c : List Value} {m : Nat} (hc : c.length = m) : ∀ (n i : Nat), i < n → seg (List.replicate n c).flatten (i * m) m = c
  | 0, _, h => by omega
  | n + 1, 0, _ => by
    simp only [seg, List.replicate_succ, List.flatten_cons, Nat.zero_mul, List.drop_zero, List.take_append, hc, Nat.sub_self, List.take_zero, List.append_nil]
    rw [← hc, List.take_length]
  | n + 1, i + 1, h => by
    have ih := flatten_seg hc n i (by omega)
    simp only [seg] at ih ⊢
    rw [List.replicate_succ, List.flatten_cons]
    have : (i + 1) * m = c.length + i * m := by rw [hc, Nat.add_mul]; omega
    rw [this, List.drop_append]
    simp only [Nat.add_sub_cancel_left]
    rw [List.drop_eq_nil_of_le (by omega), List.nil_append, ih]

theorem rep_zero {F : Nat → Option Obj} : ∀ t : Ty, Rep F t t.d (zeroCells t)
  | .bool => rfl
  | .u64 => rfl
  | .u8 => rfl
  | .int => ⟨rfl, by decide⟩
  | .str => ⟨rfl, by simp [Ty.d]⟩
  | .elem => rfl
  | .prod a b => by
    refine ⟨by simp only [zeroCells, List.length_append, zeroCells_length], ?_, ?_⟩
    · have : (zeroCells (.prod a b)).take a.size = zeroCells a := by
        simp only [zeroCells]
        rw [← zeroCells_length a, List.take_left]
      rw [this]; exact rep_zero a
    · have : (zeroCells (.prod a b)).drop a.size = zeroCells b := by
        simp only [zeroCells]
        rw [← zeroCells_length a, List.drop_left]
      rw [this]; exact rep_zero b
  | .arr n t => by
    refine ⟨zeroCells_length _, by simp [Ty.d], fun i hi => ?_⟩
    have h1 : (Ty.d (.arr n t)).getD i t.d = t.d := by
      simp [Ty.d, List.getD_eq_getElem?_getD, List.getElem?_replicate, hi]
    rw [h1]
    simp only [zeroCells]
    rw [flatten_seg (zeroCells_length t) n i hi]
    exact rep_zero t
  | .list t => ⟨by simp [Ty.d], none, 0, rfl, by simp [Ty.d], .inl rfl⟩

/-- The part that a description says. -/
def descB (P : Program) (T : TypeId) (d : TypeDesc) : TD → Bool
  | .struct fs => match d with
    | .struct fields => decide (fields.toList.map (fun f => (f.offset, f.type)) = fs) && fields.toList.all (fun f => !decide (f.name = "_")) && !P.stoodInHeld T &&
        (fields.toList.mapM (fun f => (P.info? f.type).map fun i => (f.offset, i.size))).isSome
    | _ => false
  | .array n e => match d with
    | .array n' e' => Nat.beq n n' && Nat.beq e e'
    | _ => false
  | .slice e => match d with
    | .slice e' => Nat.beq e e'
    | _ => false
  | .int k => match d with
    | .int k' => decide (k' = k)
    | _ => false
  | .bool => match d with
    | .bool => true
    | _ => false
  | .str => match d with
    | .string => true
    | _ => false
  | .ptr => match d with
    | .pointer _ => true
    | _ => false
  | .iface => match d with
    | .interface _ => true
    | _ => false
  | .other => match d with
    | .struct _ => false
    | .array .. => false
    | _ => true

theorem tiOk_of {P : Program} {T : TypeId} {ti : TI} (h1 : (P.info? T).isSome = true) (h4 : ((P.info? T).get h1).zero.isSome = true) (h10 : (P.underlying T).isSome = true)
    (hs : Nat.beq ((P.info? T).get h1).size ti.size = true) (hb : Nat.beq ((P.info? T).get h1).bytes ti.bytes = true)
    (hz : (((P.info? T).get h1).zero.get h4).cells.toList.map ofCell = ti.zero) (hc : ((((P.info? T).get h1).zero.get h4).cells.toList.all Value.oneCell') = true)
    (hn : Nat.beq (((P.info? T).get h1).zero.get h4).cells.size ti.size = true) (h8 : Nat.ble ti.size 16777216 = true) (h9 : (ti.desc.agg || Nat.beq ti.size 1) = true)
    (hd : descB P T ((P.underlying T).get h10) ti.desc = true)
    (ht : match ti.ty with
      | none => True
      | some t => Nat.beq t.size ti.size = true ∧ (((P.info? T).get h1).zero.get h4).cells.toList = zeroCells t ∧ (!ti.desc.agg || !P.eqGuardType P.depth T) = true) : TiOk P T ti := by
  have e1 : P.info? T = some ((P.info? T).get h1) := (Option.some_get h1).symm
  have e4 : ((P.info? T).get h1).zero = some (((P.info? T).get h1).zero.get h4) := (Option.some_get h4).symm
  refine ⟨⟨_, _, e1, Nat.eq_of_beq_eq_true hs, Nat.eq_of_beq_eq_true hb, e4, hz, Nat.eq_of_beq_eq_true hn, fun u hu => List.all_eq_true.1 hc u hu⟩, Nat.le_of_ble_eq_true h8, fun ha => ?_, ⟨_, (Option.some_get h10).symm, ?_⟩, fun t hty => ?_⟩
  · rw [ha, Bool.false_or] at h9
    exact Nat.eq_of_beq_eq_true h9
  · generalize (P.underlying T).get h10 = d at hd
    cases hdd : ti.desc <;> rw [hdd] at hd <;> simp only [descB] at hd <;> (try dsimp only)
    case struct fs =>
      split at hd
      · rename_i fields
        simp only [Bool.and_eq_true, decide_eq_true_eq, List.all_eq_true, Bool.not_eq_true', decide_eq_false_iff_not] at hd
        exact ⟨fields, rfl, hd.1.1.1, hd.1.1.2, hd.1.2, hd.2⟩
      · cases hd
    case array n e =>
      split at hd
      · rw [Bool.and_eq_true] at hd
        rw [Nat.eq_of_beq_eq_true hd.1, Nat.eq_of_beq_eq_true hd.2]
      · cases hd
    case slice e =>
      split at hd
      · rw [Nat.eq_of_beq_eq_true hd]
      · cases hd
    case int k =>
      split at hd
      · rw [of_decide_eq_true hd]
      · cases hd
    case bool =>
      split at hd
      · rfl
      · cases hd
    case str =>
      split at hd
      · rfl
      · cases hd
    case ptr =>
      split at hd
      · exact ⟨_, rfl⟩
      · cases hd
    case iface =>
      split at hd
      · exact ⟨_, rfl⟩
      · cases hd
    case other =>
      cases d <;> first | trivial | (cases hd; done)
  · rw [hty] at ht
    obtain ⟨t1, t2, t3⟩ := ht
    refine ⟨Nat.eq_of_beq_eq_true t1, fun F z hz' => ?_, fun ha => ?_⟩
    · rw [e1] at hz'
      simp only [Option.bind_some] at hz'
      rw [e4] at hz'
      cases hz'
      rw [t2]
      exact rep_zero t
    · rw [ha, Bool.not_true, Bool.false_or, Bool.not_eq_true'] at t3
      exact t3

/-- Tables. -/
def teNil : TE := fun _ => none
def teCons (T : TypeId) (ti : TI) (te : TE) : TE := fun x => cond (Nat.beq x T) (some ti) (te x)

theorem teOk_nil {P : Program} : TeOk P teNil := fun _ _ h => by cases h
theorem teOk_cons {P : Program} {T : TypeId} {ti : TI} {te : TE} (h : TiOk P T ti) (ht : TeOk P te) : TeOk P (teCons T ti te) := fun x t hx => by
  unfold teCons at hx
  cases hb : Nat.beq x T
  · rw [hb] at hx; exact ht x t hx
  · rw [hb] at hx
    cases hx
    rw [Nat.eq_of_beq_eq_true hb]
    exact h

def envNil : Env := fun _ => none
def envCons (f : FuncId) (s : Summ) (Φ : Env) : Env := fun x => cond (Nat.beq x f) (some s) (Φ x)

theorem envOk_nil {P : Program} : EnvOk P envNil := fun _ _ h => by cases h
theorem envOk_cons {P : Program} {f : FuncId} {s : Summ} {Φ : Env} (h : SummOk P f s) (hΦ : EnvOk P Φ) : EnvOk P (envCons f s Φ) := fun x t hx => by
  unfold envCons at hx
  cases hb : Nat.beq x f
  · rw [hb] at hx; exact hΦ x t hx
  · rw [hb] at hx
    cases hx
    rw [Nat.eq_of_beq_eq_true hb]
    exact h
theorem envMono_nil : EnvMono envNil := fun _ _ h => by cases h
theorem envMono_cons {f : FuncId} {s : Summ} {Φ : Env} (h : MonoOk s) (hΦ : EnvMono Φ) : EnvMono (envCons f s Φ) := fun x t hx => by
  unfold envCons at hx
  cases hb : Nat.beq x f
  · rw [hb] at hx; exact hΦ x t hx
  · rw [hb] at hx
    cases hx
    exact h

end Sx
end Go.Proofs.Ytkngdfhigpjciaa

/- Loops: ends by a list, rounds in a row. No statement of a seat is proved here. -/
namespace Go.Proofs.Ytkngdfhigpjciaa
namespace Sx
open Go

def xsMk (l : List (Nat × Shape)) (r : Option Shape) : SE → Option Shape
  | .exit n => (l.find? fun p => Nat.beq p.1 n).map (·.2)
  | .ret => r
  | _ => none

theorem xsMk_small {l : List (Nat × Shape)} {r : Option Shape} {k : Nat} {R : Ctx} (hl : (l.all fun p => Nat.beq p.2.fixed k) = true) (hr : (r.all fun s => Nat.beq s.fixed k) = true) (hR : Small R k) :
    ∀ e s, xsMk l r e = some s → Small R s.fixed := by
  intro e s h
  cases e with
  | exit n =>
    simp only [xsMk] at h
    cases hf : l.find? fun p => Nat.beq p.1 n with
    | none => rw [hf] at h; cases h
    | some p =>
      rw [hf] at h
      cases h
      rw [Nat.eq_of_beq_eq_true (List.all_eq_true.1 hl p (List.mem_of_find?_eq_some hf))]
      exact hR
  | ret =>
    simp only [xsMk] at h
    subst h
    have e : s.fixed = k := Nat.eq_of_beq_eq_true (by simpa using hr)
    rw [e]
    exact hR
  | normal => cases h
  | pan v => cases h

theorem xsMk_pan {l : List (Nat × Shape)} {r : Option Shape} (v : SV) : xsMk l r (.pan v) = none := rfl

section
variable {σ ε : Type} {T : σ → OT (Sum σ ε)}

theorem loopRun_more {s s' : σ} {m : Nat} {e : ε} (h : (T s).run = some (.inl s')) (h2 : loopRun T m s' = some e) : loopRun T (m + 1) s = some e := by
  simp only [loopRun, h]; exact h2

theorem loopRun_out {s : σ} {e : ε} (h : (T s).run = some (.inr e)) : loopRun T 1 s = some e := by
  simp only [loopRun, h]

/-- Rounds in a row. -/
theorem loopRun_seq (st : Nat → σ) (n : Nat) {e : ε} (h : ∀ k, k < n → (T (st k)).run = some (.inl (st (k + 1)))) (hn : (T (st n)).run = some (.inr e)) : ∀ j k, k + j = n → loopRun T (j + 1) (st k) = some e
  | 0, k, hk => by
    have : k = n := by omega
    subst this
    exact loopRun_out hn
  | j + 1, k, hk => loopRun_more (h k (by omega)) (loopRun_seq st n h hn j (k + 1) (by omega))

theorem loopRun_for (st : Nat → σ) (n : Nat) {e : ε} (h : ∀ k, k < n → (T (st k)).run = some (.inl (st (k + 1)))) (hn : (T (st n)).run = some (.inr e)) (k : Nat) (hk : k ≤ n) : ∃ m, loopRun T m (st k) = some e :=
  ⟨n - k + 1, loopRun_seq st n h hn (n - k) k (by omega)⟩

/-- So many steps, with their numbers. -/
def upto {β : Type} (f : Nat → β → β) (b : β) : Nat → β
  | 0 => b
  | k + 1 => f k (upto f b k)

/-- A loop that counts. -/
theorem loop_upto {β : Type} (mk : Nat → β → σ) (step : Nat → β → β) (fin : β → ε) (n : Nat) (b0 : β) (P : Nat → β → Prop) (h0 : P 0 b0)
    (hs : ∀ k b, k < n → P k b → (T (mk k b)).run = some (.inl (mk (k + 1) (step k b))) ∧ P (k + 1) (step k b))
    (he : ∀ b, P n b → (T (mk n b)).run = some (.inr (fin b))) : (∃ m, loopRun T m (mk 0 b0) = some (fin (upto step b0 n))) ∧ P n (upto step b0 n) := by
  have hP : ∀ k, k ≤ n → P k (upto step b0 k) := by
    intro k
    induction k with
    | zero => exact fun _ => h0
    | succ k ih => exact fun hk => (hs k _ (by omega) (ih (by omega))).2
  refine ⟨?_, hP n (Nat.le_refl _)⟩
  exact loopRun_for (fun k => mk k (upto step b0 k)) n (fun k hk => (hs k _ hk (hP k (by omega))).1) (he _ (hP n (Nat.le_refl _))) 0 (Nat.zero_le _)

end

/-- So many of a list, from its head on. -/
def tab {α : Type} (x : List α) (n : Nat) (d : α) : List α := (List.range n).map fun i => x.getD i d

theorem tab_eq {α : Type} {x : List α} {n : Nat} {d : α} (h : x.length = n) : tab x n d = x := by
  apply List.ext_getElem
  · simp [tab, h]
  · intro i h1 h2
    simp [tab, List.getD_eq_getElem?_getD, h2]

theorem tab_length {α : Type} {x : List α} {n : Nat} {d : α} : (tab x n d).length = n := by simp [tab]

/-- A list laid over another, element by element. -/
def lay {α : Type} (x y : List α) (n : Nat) (d : α) : List α := (List.range n).foldl (fun a i => a.set i (y.getD i d)) x

theorem lay_length {α : Type} {x y : List α} {d : α} : ∀ n, (lay x y n d).length = x.length
  | 0 => rfl
  | n + 1 => by
    have := lay_length (x := x) (y := y) (d := d) n
    simp only [lay, List.range_succ, List.foldl_append, List.foldl_cons, List.foldl_nil, List.length_set] at this ⊢
    exact this

theorem lay_get {α : Type} {x y : List α} {d : α} : ∀ n i, n ≤ x.length → i < x.length → (lay x y n d)[i]? = if i < n then some (y.getD i d) else x[i]?
  | 0, i, _, _ => by simp [lay]
  | n + 1, i, h, hi => by
    have ih := lay_get (x := x) (y := y) (d := d) n i (by omega) hi
    have hl := lay_length (x := x) (y := y) (d := d) n
    simp only [lay] at ih hl
    simp only [lay, List.range_succ, List.foldl_append, List.foldl_cons, List.foldl_nil]
    by_cases e : n = i
    · subst e
      rw [List.getElem?_set_self (by omega), if_pos (by omega)]
    · rw [List.getElem?_set_ne e, ih]
      by_cases h1 : i < n
      · rw [if_pos h1, if_pos (by omega)]
      · rw [if_neg h1, if_neg (by omega)]

theorem lay_eq {α : Type} {x y : List α} {n : Nat} {d : α} (hx : x.length = n) (hy : y.length = n) : lay x y n d = y := by
  apply List.ext_getElem?
  intro i
  by_cases hi : i < n
  · rw [lay_get n i (by omega) (by omega), if_pos hi, List.getD_eq_getElem?_getD, List.getElem?_eq_getElem (by omega)]
    rfl
  · rw [List.getElem?_eq_none (by rw [lay_length]; omega), List.getElem?_eq_none (by omega)]

theorem OT.run_br {α : Type} {b : Bool} {x y : OT α} : (OT.br b x y).run = cond b x.run y.run := by cases b <;> rfl
theorem OT.run_ok {α : Type} {a : α} : (OT.ok a).run = some a := rfl
theorem OT.run_fail {α : Type} : (OT.fail : OT α).run = none := rfl

theorem OT.run_t {α : Type} {b : Bool} {x y : OT α} (h : b = true) : (OT.br b x y).run = x.run := by rw [h]; rfl
theorem OT.run_f {α : Type} {b : Bool} {x y : OT α} (h : b = false) : (OT.br b x y).run = y.run := by rw [h]; rfl

/-- Tests that must all come out true. -/
def gd {α : Type} : List Bool → OT α → OT α
  | [], x => x
  | b :: r, x => .br b (gd r x) .fail

theorem gd_run {α : Type} {x : OT α} : ∀ {bs : List Bool}, bs.all (fun b => b) = true → (gd bs x).run = x.run
  | [], _ => rfl
  | b :: r, h => by
    rw [List.all_cons, Bool.and_eq_true] at h
    exact (OT.run_t h.1).trans (gd_run h.2)

theorem inR_of {n : Int} (h : -9223372036854775808 ≤ n ∧ n ≤ 9223372036854775807) : inR n = true := by simp [inR, h.1, h.2]
theorem inB_of {k : Int} {n : Nat} (h : 0 ≤ k ∧ k < (n : Int)) : inB k n = true := by simp [inB, h.1, h.2]
theorem inB_lt {k : Int} {n : Nat} (h : inB k n = true) : k.toNat < n := by
  simp only [inB, Bool.and_eq_true, decide_eq_true_eq] at h
  omega
theorem inB_not {k : Int} {n : Nat} (h : k < 0 ∨ (n : Int) ≤ k) : inB k n = false := by
  unfold inB
  rcases h with h | h
  · have : decide (0 ≤ k) = false := decide_eq_false (by omega)
    rw [this]; rfl
  · have : decide (k < (n : Int)) = false := decide_eq_false (by omega)
    rw [this, Bool.and_false]
theorem between_of {l h : Int} {n : Nat} (hh : 0 ≤ l ∧ l ≤ h ∧ h ≤ (n : Int)) : between l h n = true := by simp [between, hh.1, hh.2.1, hh.2.2]

/-- A proposition as a test. -/
noncomputable def yes (p : Prop) : Bool := @decide p (Classical.propDecidable p)
theorem yes_of {p : Prop} (h : p) : yes p = true := @decide_eq_true p (Classical.propDecidable p) h
theorem of_yes {p : Prop} (h : yes p = true) : p := @of_decide_eq_true p (Classical.propDecidable p) h

end Sx
end Go.Proofs.Ytkngdfhigpjciaa

namespace Go.Proofs.Ytkngdfhigpjciaa
open Sx Go
set_option maxRecDepth 100000
def te_ti1 : TI := ⟨1, 8, .other, [.junk], none⟩

theorem te_to1 : TiOk Try.prog 1 te_ti1 := tiOk_of (by kernel_rfl) (by kernel_rfl) (by kernel_rfl) (by kernel_rfl) (by kernel_rfl) (by kernel_rfl) (by kernel_rfl) (by kernel_rfl) (by kernel_rfl) (by kernel_rfl) (by kernel_rfl) trivial

def te_ti2 : TI := ⟨1, 8, .int .i64, [.int 0], some .int⟩

theorem te_to2 : TiOk Try.prog 2 te_ti2 := tiOk_of (by kernel_rfl) (by kernel_rfl) (by kernel_rfl) (by kernel_rfl) (by kernel_rfl) (by kernel_rfl) (by kernel_rfl) (by kernel_rfl) (by kernel_rfl) (by kernel_rfl) (by kernel_rfl) ⟨by kernel_rfl, by kernel_rfl, by kernel_rfl⟩

def te_ti3 : TI := ⟨1, 8, .int .i64, [.int 0], some .int⟩

theorem te_to3 : TiOk Try.prog 3 te_ti3 := tiOk_of (by kernel_rfl) (by kernel_rfl) (by kernel_rfl) (by kernel_rfl) (by kernel_rfl) (by kernel_rfl) (by kernel_rfl) (by kernel_rfl) (by kernel_rfl) (by kernel_rfl) (by kernel_rfl) ⟨by kernel_rfl, by kernel_rfl, by kernel_rfl⟩

def te_ti4 : TI := ⟨1, 1, .bool, [.bool false], some .bool⟩

theorem te_to4 : TiOk Try.prog 4 te_ti4 := tiOk_of (by kernel_rfl) (by kernel_rfl) (by kernel_rfl) (by kernel_rfl) (by kernel_rfl) (by kernel_rfl) (by kernel_rfl) (by kernel_rfl) (by kernel_rfl) (by kernel_rfl) (by kernel_rfl) ⟨by kernel_rfl, by kernel_rfl, by kernel_rfl⟩

def te_ti5 : TI := ⟨1, 1, .int .u8, [.u8 0], some .u8⟩

theorem te_to5 : TiOk Try.prog 5 te_ti5 := tiOk_of (by kernel_rfl) (by kernel_rfl) (by kernel_rfl) (by kernel_rfl) (by kernel_rfl) (by kernel_rfl) (by kernel_rfl) (by kernel_rfl) (by kernel_rfl) (by kernel_rfl) (by kernel_rfl) ⟨by kernel_rfl, by kernel_rfl, by kernel_rfl⟩

def te_ti6 : TI := ⟨1, 1, .int .u8, [.u8 0], some .u8⟩

theorem te_to6 : TiOk Try.prog 6 te_ti6 := tiOk_of (by kernel_rfl) (by kernel_rfl) (by kernel_rfl) (by kernel_rfl) (by kernel_rfl) (by kernel_rfl) (by kernel_rfl) (by kernel_rfl) (by kernel_rfl) (by kernel_rfl) (by kernel_rfl) ⟨by kernel_rfl, by kernel_rfl, by kernel_rfl⟩

def te_ti7 : TI := ⟨4, 24, .struct [(0, 2), (1, 3), (2, 4), (3, 6)], [.int 0, .int 0, .bool false, .u8 0], some (.prod .int (.prod .int (.prod .bool .u8)))⟩

theorem te_to7 : TiOk Try.prog 7 te_ti7 := tiOk_of (by kernel_rfl) (by kernel_rfl) (by kernel_rfl) (by kernel_rfl) (by kernel_rfl) (by kernel_rfl) (by kernel_rfl) (by kernel_rfl) (by kernel_rfl) (by kernel_rfl) (by kernel_rfl) ⟨by kernel_rfl, by kernel_rfl, by kernel_rfl⟩

def te_ti8 : TI := ⟨4, 24, .struct [(0, 2), (1, 3), (2, 4), (3, 6)], [.int 0, .int 0, .bool false, .u8 0], some (.prod .int (.prod .int (.prod .bool .u8)))⟩

theorem te_to8 : TiOk Try.prog 8 te_ti8 := tiOk_of (by kernel_rfl) (by kernel_rfl) (by kernel_rfl) (by kernel_rfl) (by kernel_rfl) (by kernel_rfl) (by kernel_rfl) (by kernel_rfl) (by kernel_rfl) (by kernel_rfl) (by kernel_rfl) ⟨by kernel_rfl, by kernel_rfl, by kernel_rfl⟩

def te_ti9 : TI := ⟨1, 16, .str, [.str []], some .str⟩

theorem te_to9 : TiOk Try.prog 9 te_ti9 := tiOk_of (by kernel_rfl) (by kernel_rfl) (by kernel_rfl) (by kernel_rfl) (by kernel_rfl) (by kernel_rfl) (by kernel_rfl) (by kernel_rfl) (by kernel_rfl) (by kernel_rfl) (by kernel_rfl) ⟨by kernel_rfl, by kernel_rfl, by kernel_rfl⟩

def te_ti10 : TI := ⟨1, 16, .str, [.str []], some .str⟩

theorem te_to10 : TiOk Try.prog 10 te_ti10 := tiOk_of (by kernel_rfl) (by kernel_rfl) (by kernel_rfl) (by kernel_rfl) (by kernel_rfl) (by kernel_rfl) (by kernel_rfl) (by kernel_rfl) (by kernel_rfl) (by kernel_rfl) (by kernel_rfl) ⟨by kernel_rfl, by kernel_rfl, by kernel_rfl⟩

def te_ti11 : TI := ⟨1, 16, .str, [.str []], some .str⟩

theorem te_to11 : TiOk Try.prog 11 te_ti11 := tiOk_of (by kernel_rfl) (by kernel_rfl) (by kernel_rfl) (by kernel_rfl) (by kernel_rfl) (by kernel_rfl) (by kernel_rfl) (by kernel_rfl) (by kernel_rfl) (by kernel_rfl) (by kernel_rfl) ⟨by kernel_rfl, by kernel_rfl, by kernel_rfl⟩

def te_ti12 : TI := ⟨1, 8, .int .u64, [.u64 0], some .u64⟩

theorem te_to12 : TiOk Try.prog 12 te_ti12 := tiOk_of (by kernel_rfl) (by kernel_rfl) (by kernel_rfl) (by kernel_rfl) (by kernel_rfl) (by kernel_rfl) (by kernel_rfl) (by kernel_rfl) (by kernel_rfl) (by kernel_rfl) (by kernel_rfl) ⟨by kernel_rfl, by kernel_rfl, by kernel_rfl⟩

def te_ti15 : TI := ⟨1, 8, .ptr, [.nilp], none⟩

theorem te_to15 : TiOk Try.prog 15 te_ti15 := tiOk_of (by kernel_rfl) (by kernel_rfl) (by kernel_rfl) (by kernel_rfl) (by kernel_rfl) (by kernel_rfl) (by kernel_rfl) (by kernel_rfl) (by kernel_rfl) (by kernel_rfl) (by kernel_rfl) trivial

def te_ti16 : TI := ⟨1, 8, .ptr, [.nilp], none⟩

theorem te_to16 : TiOk Try.prog 16 te_ti16 := tiOk_of (by kernel_rfl) (by kernel_rfl) (by kernel_rfl) (by kernel_rfl) (by kernel_rfl) (by kernel_rfl) (by kernel_rfl) (by kernel_rfl) (by kernel_rfl) (by kernel_rfl) (by kernel_rfl) trivial

def te_ti17 : TI := ⟨1, 8, .ptr, [.nilp], none⟩

theorem te_to17 : TiOk Try.prog 17 te_ti17 := tiOk_of (by kernel_rfl) (by kernel_rfl) (by kernel_rfl) (by kernel_rfl) (by kernel_rfl) (by kernel_rfl) (by kernel_rfl) (by kernel_rfl) (by kernel_rfl) (by kernel_rfl) (by kernel_rfl) trivial

def te_ti20 : TI := ⟨1, 16, .iface, [.niface], none⟩

theorem te_to20 : TiOk Try.prog 20 te_ti20 := tiOk_of (by kernel_rfl) (by kernel_rfl) (by kernel_rfl) (by kernel_rfl) (by kernel_rfl) (by kernel_rfl) (by kernel_rfl) (by kernel_rfl) (by kernel_rfl) (by kernel_rfl) (by kernel_rfl) trivial

def te_ti21 : TI := ⟨1, 4, .int .i32, [.junk], none⟩

theorem te_to21 : TiOk Try.prog 21 te_ti21 := tiOk_of (by kernel_rfl) (by kernel_rfl) (by kernel_rfl) (by kernel_rfl) (by kernel_rfl) (by kernel_rfl) (by kernel_rfl) (by kernel_rfl) (by kernel_rfl) (by kernel_rfl) (by kernel_rfl) trivial

def te_ti22 : TI := ⟨1, 24, .slice 5, [.emp], some (.list .u8)⟩

theorem te_to22 : TiOk Try.prog 22 te_ti22 := tiOk_of (by kernel_rfl) (by kernel_rfl) (by kernel_rfl) (by kernel_rfl) (by kernel_rfl) (by kernel_rfl) (by kernel_rfl) (by kernel_rfl) (by kernel_rfl) (by kernel_rfl) (by kernel_rfl) ⟨by kernel_rfl, by kernel_rfl, by kernel_rfl⟩

def te_ti23 : TI := ⟨1, 8, .other, [.junk], none⟩

theorem te_to23 : TiOk Try.prog 23 te_ti23 := tiOk_of (by kernel_rfl) (by kernel_rfl) (by kernel_rfl) (by kernel_rfl) (by kernel_rfl) (by kernel_rfl) (by kernel_rfl) (by kernel_rfl) (by kernel_rfl) (by kernel_rfl) (by kernel_rfl) trivial

def te_ti24 : TI := ⟨1, 8, .other, [.junk], none⟩

theorem te_to24 : TiOk Try.prog 24 te_ti24 := tiOk_of (by kernel_rfl) (by kernel_rfl) (by kernel_rfl) (by kernel_rfl) (by kernel_rfl) (by kernel_rfl) (by kernel_rfl) (by kernel_rfl) (by kernel_rfl) (by kernel_rfl) (by kernel_rfl) trivial

def te_ti25 : TI := ⟨1, 8, .int .i64, [.int 0], some .int⟩

theorem te_to25 : TiOk Try.prog 25 te_ti25 := tiOk_of (by kernel_rfl) (by kernel_rfl) (by kernel_rfl) (by kernel_rfl) (by kernel_rfl) (by kernel_rfl) (by kernel_rfl) (by kernel_rfl) (by kernel_rfl) (by kernel_rfl) (by kernel_rfl) ⟨by kernel_rfl, by kernel_rfl, by kernel_rfl⟩

def te_ti27 : TI := ⟨1, 8, .other, [.junk], none⟩

theorem te_to27 : TiOk Try.prog 27 te_ti27 := tiOk_of (by kernel_rfl) (by kernel_rfl) (by kernel_rfl) (by kernel_rfl) (by kernel_rfl) (by kernel_rfl) (by kernel_rfl) (by kernel_rfl) (by kernel_rfl) (by kernel_rfl) (by kernel_rfl) trivial

def te_ti28 : TI := ⟨1, 8, .other, [.junk], none⟩

theorem te_to28 : TiOk Try.prog 28 te_ti28 := tiOk_of (by kernel_rfl) (by kernel_rfl) (by kernel_rfl) (by kernel_rfl) (by kernel_rfl) (by kernel_rfl) (by kernel_rfl) (by kernel_rfl) (by kernel_rfl) (by kernel_rfl) (by kernel_rfl) trivial

def te_ti29 : TI := ⟨1, 8, .other, [.junk], none⟩

theorem te_to29 : TiOk Try.prog 29 te_ti29 := tiOk_of (by kernel_rfl) (by kernel_rfl) (by kernel_rfl) (by kernel_rfl) (by kernel_rfl) (by kernel_rfl) (by kernel_rfl) (by kernel_rfl) (by kernel_rfl) (by kernel_rfl) (by kernel_rfl) trivial

def te_ti30 : TI := ⟨1, 24, .slice 22, [.emp], some (.list (.list .u8))⟩

theorem te_to30 : TiOk Try.prog 30 te_ti30 := tiOk_of (by kernel_rfl) (by kernel_rfl) (by kernel_rfl) (by kernel_rfl) (by kernel_rfl) (by kernel_rfl) (by kernel_rfl) (by kernel_rfl) (by kernel_rfl) (by kernel_rfl) (by kernel_rfl) ⟨by kernel_rfl, by kernel_rfl, by kernel_rfl⟩

def te_ti31 : TI := ⟨1, 8, .ptr, [.nilp], none⟩

theorem te_to31 : TiOk Try.prog 31 te_ti31 := tiOk_of (by kernel_rfl) (by kernel_rfl) (by kernel_rfl) (by kernel_rfl) (by kernel_rfl) (by kernel_rfl) (by kernel_rfl) (by kernel_rfl) (by kernel_rfl) (by kernel_rfl) (by kernel_rfl) trivial

def te_ti33 : TI := ⟨1, 8, .other, [.junk], none⟩

theorem te_to33 : TiOk Try.prog 33 te_ti33 := tiOk_of (by kernel_rfl) (by kernel_rfl) (by kernel_rfl) (by kernel_rfl) (by kernel_rfl) (by kernel_rfl) (by kernel_rfl) (by kernel_rfl) (by kernel_rfl) (by kernel_rfl) (by kernel_rfl) trivial

def te_ti34 : TI := ⟨1, 8, .other, [.junk], none⟩

theorem te_to34 : TiOk Try.prog 34 te_ti34 := tiOk_of (by kernel_rfl) (by kernel_rfl) (by kernel_rfl) (by kernel_rfl) (by kernel_rfl) (by kernel_rfl) (by kernel_rfl) (by kernel_rfl) (by kernel_rfl) (by kernel_rfl) (by kernel_rfl) trivial

def te_ti35 : TI := ⟨1, 8, .other, [.junk], none⟩

theorem te_to35 : TiOk Try.prog 35 te_ti35 := tiOk_of (by kernel_rfl) (by kernel_rfl) (by kernel_rfl) (by kernel_rfl) (by kernel_rfl) (by kernel_rfl) (by kernel_rfl) (by kernel_rfl) (by kernel_rfl) (by kernel_rfl) (by kernel_rfl) trivial

def te_ti36 : TI := ⟨1, 8, .other, [.junk], none⟩

theorem te_to36 : TiOk Try.prog 36 te_ti36 := tiOk_of (by kernel_rfl) (by kernel_rfl) (by kernel_rfl) (by kernel_rfl) (by kernel_rfl) (by kernel_rfl) (by kernel_rfl) (by kernel_rfl) (by kernel_rfl) (by kernel_rfl) (by kernel_rfl) trivial

def te_ti37 : TI := ⟨1, 8, .other, [.junk], none⟩

theorem te_to37 : TiOk Try.prog 37 te_ti37 := tiOk_of (by kernel_rfl) (by kernel_rfl) (by kernel_rfl) (by kernel_rfl) (by kernel_rfl) (by kernel_rfl) (by kernel_rfl) (by kernel_rfl) (by kernel_rfl) (by kernel_rfl) (by kernel_rfl) trivial

def te_ti38 : TI := ⟨1, 24, .slice 44, [.emp], some (.list .elem)⟩

theorem te_to38 : TiOk Try.prog 38 te_ti38 := tiOk_of (by kernel_rfl) (by kernel_rfl) (by kernel_rfl) (by kernel_rfl) (by kernel_rfl) (by kernel_rfl) (by kernel_rfl) (by kernel_rfl) (by kernel_rfl) (by kernel_rfl) (by kernel_rfl) ⟨by kernel_rfl, by kernel_rfl, by kernel_rfl⟩

def te_ti39 : TI := ⟨1, 8, .other, [.junk], none⟩

theorem te_to39 : TiOk Try.prog 39 te_ti39 := tiOk_of (by kernel_rfl) (by kernel_rfl) (by kernel_rfl) (by kernel_rfl) (by kernel_rfl) (by kernel_rfl) (by kernel_rfl) (by kernel_rfl) (by kernel_rfl) (by kernel_rfl) (by kernel_rfl) trivial

def te_ti40 : TI := ⟨1, 8, .ptr, [.nilp], none⟩

theorem te_to40 : TiOk Try.prog 40 te_ti40 := tiOk_of (by kernel_rfl) (by kernel_rfl) (by kernel_rfl) (by kernel_rfl) (by kernel_rfl) (by kernel_rfl) (by kernel_rfl) (by kernel_rfl) (by kernel_rfl) (by kernel_rfl) (by kernel_rfl) trivial

def te_ti41 : TI := ⟨1, 8, .other, [.junk], none⟩

theorem te_to41 : TiOk Try.prog 41 te_ti41 := tiOk_of (by kernel_rfl) (by kernel_rfl) (by kernel_rfl) (by kernel_rfl) (by kernel_rfl) (by kernel_rfl) (by kernel_rfl) (by kernel_rfl) (by kernel_rfl) (by kernel_rfl) (by kernel_rfl) trivial

def te_ti42 : TI := ⟨1, 8, .int .u64, [.u64 0], some .u64⟩

theorem te_to42 : TiOk Try.prog 42 te_ti42 := tiOk_of (by kernel_rfl) (by kernel_rfl) (by kernel_rfl) (by kernel_rfl) (by kernel_rfl) (by kernel_rfl) (by kernel_rfl) (by kernel_rfl) (by kernel_rfl) (by kernel_rfl) (by kernel_rfl) ⟨by kernel_rfl, by kernel_rfl, by kernel_rfl⟩

def te_ti43 : TI := ⟨4, 32, .array 4 42, [.u64 0, .u64 0, .u64 0, .u64 0], some .elem⟩

theorem te_to43 : TiOk Try.prog 43 te_ti43 := tiOk_of (by kernel_rfl) (by kernel_rfl) (by kernel_rfl) (by kernel_rfl) (by kernel_rfl) (by kernel_rfl) (by kernel_rfl) (by kernel_rfl) (by kernel_rfl) (by kernel_rfl) (by kernel_rfl) ⟨by kernel_rfl, by kernel_rfl, by kernel_rfl⟩

def te_ti44 : TI := ⟨4, 32, .array 4 42, [.u64 0, .u64 0, .u64 0, .u64 0], some .elem⟩

theorem te_to44 : TiOk Try.prog 44 te_ti44 := tiOk_of (by kernel_rfl) (by kernel_rfl) (by kernel_rfl) (by kernel_rfl) (by kernel_rfl) (by kernel_rfl) (by kernel_rfl) (by kernel_rfl) (by kernel_rfl) (by kernel_rfl) (by kernel_rfl) ⟨by kernel_rfl, by kernel_rfl, by kernel_rfl⟩

def te_ti46 : TI := ⟨1, 8, .other, [.junk], none⟩

theorem te_to46 : TiOk Try.prog 46 te_ti46 := tiOk_of (by kernel_rfl) (by kernel_rfl) (by kernel_rfl) (by kernel_rfl) (by kernel_rfl) (by kernel_rfl) (by kernel_rfl) (by kernel_rfl) (by kernel_rfl) (by kernel_rfl) (by kernel_rfl) trivial

def te_ti47 : TI := ⟨1, 8, .other, [.junk], none⟩

theorem te_to47 : TiOk Try.prog 47 te_ti47 := tiOk_of (by kernel_rfl) (by kernel_rfl) (by kernel_rfl) (by kernel_rfl) (by kernel_rfl) (by kernel_rfl) (by kernel_rfl) (by kernel_rfl) (by kernel_rfl) (by kernel_rfl) (by kernel_rfl) trivial

def te_ti48 : TI := ⟨8, 64, .array 8 42, [.u64 0, .u64 0, .u64 0, .u64 0, .u64 0, .u64 0, .u64 0, .u64 0], some (.arr 8 .u64)⟩

theorem te_to48 : TiOk Try.prog 48 te_ti48 := tiOk_of (by kernel_rfl) (by kernel_rfl) (by kernel_rfl) (by kernel_rfl) (by kernel_rfl) (by kernel_rfl) (by kernel_rfl) (by kernel_rfl) (by kernel_rfl) (by kernel_rfl) (by kernel_rfl) ⟨by kernel_rfl, by kernel_rfl, by kernel_rfl⟩

def te_ti49 : TI := ⟨1, 8, .other, [.junk], none⟩

theorem te_to49 : TiOk Try.prog 49 te_ti49 := tiOk_of (by kernel_rfl) (by kernel_rfl) (by kernel_rfl) (by kernel_rfl) (by kernel_rfl) (by kernel_rfl) (by kernel_rfl) (by kernel_rfl) (by kernel_rfl) (by kernel_rfl) (by kernel_rfl) trivial

def te_ti50 : TI := ⟨1, 8, .other, [.junk], none⟩

theorem te_to50 : TiOk Try.prog 50 te_ti50 := tiOk_of (by kernel_rfl) (by kernel_rfl) (by kernel_rfl) (by kernel_rfl) (by kernel_rfl) (by kernel_rfl) (by kernel_rfl) (by kernel_rfl) (by kernel_rfl) (by kernel_rfl) (by kernel_rfl) trivial

def te_ti51 : TI := ⟨1, 8, .other, [.junk], none⟩

theorem te_to51 : TiOk Try.prog 51 te_ti51 := tiOk_of (by kernel_rfl) (by kernel_rfl) (by kernel_rfl) (by kernel_rfl) (by kernel_rfl) (by kernel_rfl) (by kernel_rfl) (by kernel_rfl) (by kernel_rfl) (by kernel_rfl) (by kernel_rfl) trivial

def te_ti52 : TI := ⟨1, 8, .int .u64, [.u64 0], some .u64⟩

theorem te_to52 : TiOk Try.prog 52 te_ti52 := tiOk_of (by kernel_rfl) (by kernel_rfl) (by kernel_rfl) (by kernel_rfl) (by kernel_rfl) (by kernel_rfl) (by kernel_rfl) (by kernel_rfl) (by kernel_rfl) (by kernel_rfl) (by kernel_rfl) ⟨by kernel_rfl, by kernel_rfl, by kernel_rfl⟩

def te_ti53 : TI := ⟨11, 104, .struct [(0, 3), (1, 48), (9, 22), (10, 42)], [.int 0, .u64 0, .u64 0, .u64 0, .u64 0, .u64 0, .u64 0, .u64 0, .u64 0, .emp, .u64 0], some (.prod .int (.prod (.arr 8 .u64) (.prod (.list .u8) .u64)))⟩

theorem te_to53 : TiOk Try.prog 53 te_ti53 := tiOk_of (by kernel_rfl) (by kernel_rfl) (by kernel_rfl) (by kernel_rfl) (by kernel_rfl) (by kernel_rfl) (by kernel_rfl) (by kernel_rfl) (by kernel_rfl) (by kernel_rfl) (by kernel_rfl) ⟨by kernel_rfl, by kernel_rfl, by kernel_rfl⟩

def te_ti54 : TI := ⟨11, 104, .struct [(0, 3), (1, 48), (9, 22), (10, 42)], [.int 0, .u64 0, .u64 0, .u64 0, .u64 0, .u64 0, .u64 0, .u64 0, .u64 0, .emp, .u64 0], some (.prod .int (.prod (.arr 8 .u64) (.prod (.list .u8) .u64)))⟩

theorem te_to54 : TiOk Try.prog 54 te_ti54 := tiOk_of (by kernel_rfl) (by kernel_rfl) (by kernel_rfl) (by kernel_rfl) (by kernel_rfl) (by kernel_rfl) (by kernel_rfl) (by kernel_rfl) (by kernel_rfl) (by kernel_rfl) (by kernel_rfl) ⟨by kernel_rfl, by kernel_rfl, by kernel_rfl⟩

def te_ti55 : TI := ⟨16, 16, .array 16 5, List.replicate 16 (.u8 0), some (.arr 16 .u8)⟩

theorem te_to55 : TiOk Try.prog 55 te_ti55 := tiOk_of (by kernel_rfl) (by kernel_rfl) (by kernel_rfl) (by kernel_rfl) (by kernel_rfl) (by kernel_rfl) (by kernel_rfl) (by kernel_rfl) (by kernel_rfl) (by kernel_rfl) (by kernel_rfl) ⟨by kernel_rfl, by kernel_rfl, by kernel_rfl⟩

def te_ti56 : TI := ⟨1, 8, .other, [.junk], none⟩

theorem te_to56 : TiOk Try.prog 56 te_ti56 := tiOk_of (by kernel_rfl) (by kernel_rfl) (by kernel_rfl) (by kernel_rfl) (by kernel_rfl) (by kernel_rfl) (by kernel_rfl) (by kernel_rfl) (by kernel_rfl) (by kernel_rfl) (by kernel_rfl) trivial

def te_ti57 : TI := ⟨1, 8, .other, [.junk], none⟩

theorem te_to57 : TiOk Try.prog 57 te_ti57 := tiOk_of (by kernel_rfl) (by kernel_rfl) (by kernel_rfl) (by kernel_rfl) (by kernel_rfl) (by kernel_rfl) (by kernel_rfl) (by kernel_rfl) (by kernel_rfl) (by kernel_rfl) (by kernel_rfl) trivial

def te_ti58 : TI := ⟨128, 128, .array 128 5, List.replicate 128 (.u8 0), some (.arr 128 .u8)⟩

theorem te_to58 : TiOk Try.prog 58 te_ti58 := tiOk_of (by kernel_rfl) (by kernel_rfl) (by kernel_rfl) (by kernel_rfl) (by kernel_rfl) (by kernel_rfl) (by kernel_rfl) (by kernel_rfl) (by kernel_rfl) (by kernel_rfl) (by kernel_rfl) ⟨by kernel_rfl, by kernel_rfl, by kernel_rfl⟩

def te_ti59 : TI := ⟨1, 8, .ptr, [.nilp], none⟩

theorem te_to59 : TiOk Try.prog 59 te_ti59 := tiOk_of (by kernel_rfl) (by kernel_rfl) (by kernel_rfl) (by kernel_rfl) (by kernel_rfl) (by kernel_rfl) (by kernel_rfl) (by kernel_rfl) (by kernel_rfl) (by kernel_rfl) (by kernel_rfl) trivial

def te_ti61 : TI := ⟨1, 8, .other, [.junk], none⟩

theorem te_to61 : TiOk Try.prog 61 te_ti61 := tiOk_of (by kernel_rfl) (by kernel_rfl) (by kernel_rfl) (by kernel_rfl) (by kernel_rfl) (by kernel_rfl) (by kernel_rfl) (by kernel_rfl) (by kernel_rfl) (by kernel_rfl) (by kernel_rfl) trivial

def te_ti62 : TI := ⟨2, 32, .struct [(0, 3), (1, 38)], [.int 0, .emp], some (.prod .int (.list .elem))⟩

theorem te_to62 : TiOk Try.prog 62 te_ti62 := tiOk_of (by kernel_rfl) (by kernel_rfl) (by kernel_rfl) (by kernel_rfl) (by kernel_rfl) (by kernel_rfl) (by kernel_rfl) (by kernel_rfl) (by kernel_rfl) (by kernel_rfl) (by kernel_rfl) ⟨by kernel_rfl, by kernel_rfl, by kernel_rfl⟩

def te_ti63 : TI := ⟨2, 32, .struct [(0, 3), (1, 38)], [.int 0, .emp], some (.prod .int (.list .elem))⟩

theorem te_to63 : TiOk Try.prog 63 te_ti63 := tiOk_of (by kernel_rfl) (by kernel_rfl) (by kernel_rfl) (by kernel_rfl) (by kernel_rfl) (by kernel_rfl) (by kernel_rfl) (by kernel_rfl) (by kernel_rfl) (by kernel_rfl) (by kernel_rfl) ⟨by kernel_rfl, by kernel_rfl, by kernel_rfl⟩

def te_ti64 : TI := ⟨1, 16, .iface, [.niface], none⟩

theorem te_to64 : TiOk Try.prog 64 te_ti64 := tiOk_of (by kernel_rfl) (by kernel_rfl) (by kernel_rfl) (by kernel_rfl) (by kernel_rfl) (by kernel_rfl) (by kernel_rfl) (by kernel_rfl) (by kernel_rfl) (by kernel_rfl) (by kernel_rfl) trivial

def te_ti65 : TI := ⟨1, 16, .iface, [.niface], none⟩

theorem te_to65 : TiOk Try.prog 65 te_ti65 := tiOk_of (by kernel_rfl) (by kernel_rfl) (by kernel_rfl) (by kernel_rfl) (by kernel_rfl) (by kernel_rfl) (by kernel_rfl) (by kernel_rfl) (by kernel_rfl) (by kernel_rfl) (by kernel_rfl) trivial

def te_ti66 : TI := ⟨2, 24, .struct [(0, 3), (1, 65)], [.int 0, .niface], none⟩

theorem te_to66 : TiOk Try.prog 66 te_ti66 := tiOk_of (by kernel_rfl) (by kernel_rfl) (by kernel_rfl) (by kernel_rfl) (by kernel_rfl) (by kernel_rfl) (by kernel_rfl) (by kernel_rfl) (by kernel_rfl) (by kernel_rfl) (by kernel_rfl) trivial

def te_ti67 : TI := ⟨2, 24, .struct [(0, 3), (1, 65)], [.int 0, .niface], none⟩

theorem te_to67 : TiOk Try.prog 67 te_ti67 := tiOk_of (by kernel_rfl) (by kernel_rfl) (by kernel_rfl) (by kernel_rfl) (by kernel_rfl) (by kernel_rfl) (by kernel_rfl) (by kernel_rfl) (by kernel_rfl) (by kernel_rfl) (by kernel_rfl) trivial

def te_ti68 : TI := ⟨3, 48, .struct [(0, 67), (2, 22)], [.int 0, .niface, .emp], none⟩

theorem te_to68 : TiOk Try.prog 68 te_ti68 := tiOk_of (by kernel_rfl) (by kernel_rfl) (by kernel_rfl) (by kernel_rfl) (by kernel_rfl) (by kernel_rfl) (by kernel_rfl) (by kernel_rfl) (by kernel_rfl) (by kernel_rfl) (by kernel_rfl) trivial

def te_ti69 : TI := ⟨3, 48, .struct [(0, 67), (2, 22)], [.int 0, .niface, .emp], none⟩

theorem te_to69 : TiOk Try.prog 69 te_ti69 := tiOk_of (by kernel_rfl) (by kernel_rfl) (by kernel_rfl) (by kernel_rfl) (by kernel_rfl) (by kernel_rfl) (by kernel_rfl) (by kernel_rfl) (by kernel_rfl) (by kernel_rfl) (by kernel_rfl) trivial

def te_ti70 : TI := ⟨1, 8, .other, [.junk], none⟩

theorem te_to70 : TiOk Try.prog 70 te_ti70 := tiOk_of (by kernel_rfl) (by kernel_rfl) (by kernel_rfl) (by kernel_rfl) (by kernel_rfl) (by kernel_rfl) (by kernel_rfl) (by kernel_rfl) (by kernel_rfl) (by kernel_rfl) (by kernel_rfl) trivial

def te_ti71 : TI := ⟨1, 24, .struct [(0, 38)], [.emp], some (.list .elem)⟩

theorem te_to71 : TiOk Try.prog 71 te_ti71 := tiOk_of (by kernel_rfl) (by kernel_rfl) (by kernel_rfl) (by kernel_rfl) (by kernel_rfl) (by kernel_rfl) (by kernel_rfl) (by kernel_rfl) (by kernel_rfl) (by kernel_rfl) (by kernel_rfl) ⟨by kernel_rfl, by kernel_rfl, by kernel_rfl⟩

def te_ti72 : TI := ⟨1, 24, .struct [(0, 38)], [.emp], some (.list .elem)⟩

theorem te_to72 : TiOk Try.prog 72 te_ti72 := tiOk_of (by kernel_rfl) (by kernel_rfl) (by kernel_rfl) (by kernel_rfl) (by kernel_rfl) (by kernel_rfl) (by kernel_rfl) (by kernel_rfl) (by kernel_rfl) (by kernel_rfl) (by kernel_rfl) ⟨by kernel_rfl, by kernel_rfl, by kernel_rfl⟩

def te_ti73 : TI := ⟨16, 128, .array 16 42, List.replicate 16 (.u64 0), some (.arr 16 .u64)⟩

theorem te_to73 : TiOk Try.prog 73 te_ti73 := tiOk_of (by kernel_rfl) (by kernel_rfl) (by kernel_rfl) (by kernel_rfl) (by kernel_rfl) (by kernel_rfl) (by kernel_rfl) (by kernel_rfl) (by kernel_rfl) (by kernel_rfl) (by kernel_rfl) ⟨by kernel_rfl, by kernel_rfl, by kernel_rfl⟩

def te_ti74 : TI := ⟨16, 128, .array 16 3, List.replicate 16 (.int 0), some (.arr 16 .int)⟩

theorem te_to74 : TiOk Try.prog 74 te_ti74 := tiOk_of (by kernel_rfl) (by kernel_rfl) (by kernel_rfl) (by kernel_rfl) (by kernel_rfl) (by kernel_rfl) (by kernel_rfl) (by kernel_rfl) (by kernel_rfl) (by kernel_rfl) (by kernel_rfl) ⟨by kernel_rfl, by kernel_rfl, by kernel_rfl⟩

def te_ti75 : TI := ⟨160, 1280, .array 10 74, List.replicate 160 (.int 0), some (.arr 10 (.arr 16 .int))⟩

theorem te_to75 : TiOk Try.prog 75 te_ti75 := tiOk_of (by kernel_rfl) (by kernel_rfl) (by kernel_rfl) (by kernel_rfl) (by kernel_rfl) (by kernel_rfl) (by kernel_rfl) (by kernel_rfl) (by kernel_rfl) (by kernel_rfl) (by kernel_rfl) ⟨by kernel_rfl, by kernel_rfl, by kernel_rfl⟩

def te_ti76 : TI := ⟨1, 8, .other, [.junk], none⟩

theorem te_to76 : TiOk Try.prog 76 te_ti76 := tiOk_of (by kernel_rfl) (by kernel_rfl) (by kernel_rfl) (by kernel_rfl) (by kernel_rfl) (by kernel_rfl) (by kernel_rfl) (by kernel_rfl) (by kernel_rfl) (by kernel_rfl) (by kernel_rfl) trivial

def te_ti77 : TI := ⟨1, 8, .other, [.junk], none⟩

theorem te_to77 : TiOk Try.prog 77 te_ti77 := tiOk_of (by kernel_rfl) (by kernel_rfl) (by kernel_rfl) (by kernel_rfl) (by kernel_rfl) (by kernel_rfl) (by kernel_rfl) (by kernel_rfl) (by kernel_rfl) (by kernel_rfl) (by kernel_rfl) trivial

def te_ti78 : TI := ⟨16, 128, .array 16 42, List.replicate 16 (.u64 0), some (.arr 16 .u64)⟩

theorem te_to78 : TiOk Try.prog 78 te_ti78 := tiOk_of (by kernel_rfl) (by kernel_rfl) (by kernel_rfl) (by kernel_rfl) (by kernel_rfl) (by kernel_rfl) (by kernel_rfl) (by kernel_rfl) (by kernel_rfl) (by kernel_rfl) (by kernel_rfl) ⟨by kernel_rfl, by kernel_rfl, by kernel_rfl⟩

def te_ti79 : TI := ⟨1, 24, .slice 42, [.emp], some (.list .u64)⟩

theorem te_to79 : TiOk Try.prog 79 te_ti79 := tiOk_of (by kernel_rfl) (by kernel_rfl) (by kernel_rfl) (by kernel_rfl) (by kernel_rfl) (by kernel_rfl) (by kernel_rfl) (by kernel_rfl) (by kernel_rfl) (by kernel_rfl) (by kernel_rfl) ⟨by kernel_rfl, by kernel_rfl, by kernel_rfl⟩

def te_ti80 : TI := ⟨10, 160, .array 10 9, List.replicate 10 (.str []), some (.arr 10 .str)⟩

theorem te_to80 : TiOk Try.prog 80 te_ti80 := tiOk_of (by kernel_rfl) (by kernel_rfl) (by kernel_rfl) (by kernel_rfl) (by kernel_rfl) (by kernel_rfl) (by kernel_rfl) (by kernel_rfl) (by kernel_rfl) (by kernel_rfl) (by kernel_rfl) ⟨by kernel_rfl, by kernel_rfl, by kernel_rfl⟩

def te_ti81 : TI := ⟨1, 8, .other, [.junk], none⟩

theorem te_to81 : TiOk Try.prog 81 te_ti81 := tiOk_of (by kernel_rfl) (by kernel_rfl) (by kernel_rfl) (by kernel_rfl) (by kernel_rfl) (by kernel_rfl) (by kernel_rfl) (by kernel_rfl) (by kernel_rfl) (by kernel_rfl) (by kernel_rfl) trivial

def te_ti82 : TI := ⟨1, 8, .other, [.junk], none⟩

theorem te_to82 : TiOk Try.prog 82 te_ti82 := tiOk_of (by kernel_rfl) (by kernel_rfl) (by kernel_rfl) (by kernel_rfl) (by kernel_rfl) (by kernel_rfl) (by kernel_rfl) (by kernel_rfl) (by kernel_rfl) (by kernel_rfl) (by kernel_rfl) trivial

def te_ti83 : TI := ⟨1, 8, .other, [.junk], none⟩

theorem te_to83 : TiOk Try.prog 83 te_ti83 := tiOk_of (by kernel_rfl) (by kernel_rfl) (by kernel_rfl) (by kernel_rfl) (by kernel_rfl) (by kernel_rfl) (by kernel_rfl) (by kernel_rfl) (by kernel_rfl) (by kernel_rfl) (by kernel_rfl) trivial

def te_ti84 : TI := ⟨1, 8, .other, [.junk], none⟩

theorem te_to84 : TiOk Try.prog 84 te_ti84 := tiOk_of (by kernel_rfl) (by kernel_rfl) (by kernel_rfl) (by kernel_rfl) (by kernel_rfl) (by kernel_rfl) (by kernel_rfl) (by kernel_rfl) (by kernel_rfl) (by kernel_rfl) (by kernel_rfl) trivial

def te_ti86 : TI := ⟨1, 8, .other, [.junk], none⟩

theorem te_to86 : TiOk Try.prog 86 te_ti86 := tiOk_of (by kernel_rfl) (by kernel_rfl) (by kernel_rfl) (by kernel_rfl) (by kernel_rfl) (by kernel_rfl) (by kernel_rfl) (by kernel_rfl) (by kernel_rfl) (by kernel_rfl) (by kernel_rfl) trivial

def te_ti87 : TI := ⟨1, 8, .ptr, [.nilp], none⟩

theorem te_to87 : TiOk Try.prog 87 te_ti87 := tiOk_of (by kernel_rfl) (by kernel_rfl) (by kernel_rfl) (by kernel_rfl) (by kernel_rfl) (by kernel_rfl) (by kernel_rfl) (by kernel_rfl) (by kernel_rfl) (by kernel_rfl) (by kernel_rfl) trivial

def te_ti88 : TI := ⟨1, 8, .other, [.junk], none⟩

theorem te_to88 : TiOk Try.prog 88 te_ti88 := tiOk_of (by kernel_rfl) (by kernel_rfl) (by kernel_rfl) (by kernel_rfl) (by kernel_rfl) (by kernel_rfl) (by kernel_rfl) (by kernel_rfl) (by kernel_rfl) (by kernel_rfl) (by kernel_rfl) trivial

def te_ti89 : TI := ⟨1, 8, .other, [.junk], none⟩

theorem te_to89 : TiOk Try.prog 89 te_ti89 := tiOk_of (by kernel_rfl) (by kernel_rfl) (by kernel_rfl) (by kernel_rfl) (by kernel_rfl) (by kernel_rfl) (by kernel_rfl) (by kernel_rfl) (by kernel_rfl) (by kernel_rfl) (by kernel_rfl) trivial

def te_ti90 : TI := ⟨1, 8, .other, [.junk], none⟩

theorem te_to90 : TiOk Try.prog 90 te_ti90 := tiOk_of (by kernel_rfl) (by kernel_rfl) (by kernel_rfl) (by kernel_rfl) (by kernel_rfl) (by kernel_rfl) (by kernel_rfl) (by kernel_rfl) (by kernel_rfl) (by kernel_rfl) (by kernel_rfl) trivial

def te_ti91 : TI := ⟨1, 8, .ptr, [.nilp], none⟩

theorem te_to91 : TiOk Try.prog 91 te_ti91 := tiOk_of (by kernel_rfl) (by kernel_rfl) (by kernel_rfl) (by kernel_rfl) (by kernel_rfl) (by kernel_rfl) (by kernel_rfl) (by kernel_rfl) (by kernel_rfl) (by kernel_rfl) (by kernel_rfl) trivial

def te_ti92 : TI := ⟨1, 8, .other, [.junk], none⟩

theorem te_to92 : TiOk Try.prog 92 te_ti92 := tiOk_of (by kernel_rfl) (by kernel_rfl) (by kernel_rfl) (by kernel_rfl) (by kernel_rfl) (by kernel_rfl) (by kernel_rfl) (by kernel_rfl) (by kernel_rfl) (by kernel_rfl) (by kernel_rfl) trivial

def te_ti93 : TI := ⟨1, 8, .ptr, [.nilp], none⟩

theorem te_to93 : TiOk Try.prog 93 te_ti93 := tiOk_of (by kernel_rfl) (by kernel_rfl) (by kernel_rfl) (by kernel_rfl) (by kernel_rfl) (by kernel_rfl) (by kernel_rfl) (by kernel_rfl) (by kernel_rfl) (by kernel_rfl) (by kernel_rfl) trivial

def te_ti94 : TI := ⟨2, 32, .struct [(0, 3), (1, 72)], [.int 0, .emp], some (.prod .int (.list .elem))⟩

theorem te_to94 : TiOk Try.prog 94 te_ti94 := tiOk_of (by kernel_rfl) (by kernel_rfl) (by kernel_rfl) (by kernel_rfl) (by kernel_rfl) (by kernel_rfl) (by kernel_rfl) (by kernel_rfl) (by kernel_rfl) (by kernel_rfl) (by kernel_rfl) ⟨by kernel_rfl, by kernel_rfl, by kernel_rfl⟩

def te_ti95 : TI := ⟨2, 32, .struct [(0, 3), (1, 72)], [.int 0, .emp], some (.prod .int (.list .elem))⟩

theorem te_to95 : TiOk Try.prog 95 te_ti95 := tiOk_of (by kernel_rfl) (by kernel_rfl) (by kernel_rfl) (by kernel_rfl) (by kernel_rfl) (by kernel_rfl) (by kernel_rfl) (by kernel_rfl) (by kernel_rfl) (by kernel_rfl) (by kernel_rfl) ⟨by kernel_rfl, by kernel_rfl, by kernel_rfl⟩

def te_ti96 : TI := ⟨1, 8, .ptr, [.nilp], none⟩

theorem te_to96 : TiOk Try.prog 96 te_ti96 := tiOk_of (by kernel_rfl) (by kernel_rfl) (by kernel_rfl) (by kernel_rfl) (by kernel_rfl) (by kernel_rfl) (by kernel_rfl) (by kernel_rfl) (by kernel_rfl) (by kernel_rfl) (by kernel_rfl) trivial

def te_ti97 : TI := ⟨2, 16, .struct [(0, 3), (1, 31)], [.int 0, .nilp], none⟩

theorem te_to97 : TiOk Try.prog 97 te_ti97 := tiOk_of (by kernel_rfl) (by kernel_rfl) (by kernel_rfl) (by kernel_rfl) (by kernel_rfl) (by kernel_rfl) (by kernel_rfl) (by kernel_rfl) (by kernel_rfl) (by kernel_rfl) (by kernel_rfl) trivial

def te_ti98 : TI := ⟨2, 16, .struct [(0, 3), (1, 31)], [.int 0, .nilp], none⟩

theorem te_to98 : TiOk Try.prog 98 te_ti98 := tiOk_of (by kernel_rfl) (by kernel_rfl) (by kernel_rfl) (by kernel_rfl) (by kernel_rfl) (by kernel_rfl) (by kernel_rfl) (by kernel_rfl) (by kernel_rfl) (by kernel_rfl) (by kernel_rfl) trivial

def te_ti99 : TI := ⟨11, 88, .struct [(0, 44), (4, 3), (5, 42), (6, 42), (7, 44)], [.u64 0, .u64 0, .u64 0, .u64 0, .int 0, .u64 0, .u64 0, .u64 0, .u64 0, .u64 0, .u64 0], some (.prod .elem (.prod .int (.prod .u64 (.prod .u64 .elem))))⟩

theorem te_to99 : TiOk Try.prog 99 te_ti99 := tiOk_of (by kernel_rfl) (by kernel_rfl) (by kernel_rfl) (by kernel_rfl) (by kernel_rfl) (by kernel_rfl) (by kernel_rfl) (by kernel_rfl) (by kernel_rfl) (by kernel_rfl) (by kernel_rfl) ⟨by kernel_rfl, by kernel_rfl, by kernel_rfl⟩

def te_ti100 : TI := ⟨11, 88, .struct [(0, 44), (4, 3), (5, 42), (6, 42), (7, 44)], [.u64 0, .u64 0, .u64 0, .u64 0, .int 0, .u64 0, .u64 0, .u64 0, .u64 0, .u64 0, .u64 0], some (.prod .elem (.prod .int (.prod .u64 (.prod .u64 .elem))))⟩

theorem te_to100 : TiOk Try.prog 100 te_ti100 := tiOk_of (by kernel_rfl) (by kernel_rfl) (by kernel_rfl) (by kernel_rfl) (by kernel_rfl) (by kernel_rfl) (by kernel_rfl) (by kernel_rfl) (by kernel_rfl) (by kernel_rfl) (by kernel_rfl) ⟨by kernel_rfl, by kernel_rfl, by kernel_rfl⟩

def te_ti102 : TI := ⟨1, 8, .other, [.junk], none⟩

theorem te_to102 : TiOk Try.prog 102 te_ti102 := tiOk_of (by kernel_rfl) (by kernel_rfl) (by kernel_rfl) (by kernel_rfl) (by kernel_rfl) (by kernel_rfl) (by kernel_rfl) (by kernel_rfl) (by kernel_rfl) (by kernel_rfl) (by kernel_rfl) trivial

def te_ti103 : TI := ⟨1, 8, .other, [.junk], none⟩

theorem te_to103 : TiOk Try.prog 103 te_ti103 := tiOk_of (by kernel_rfl) (by kernel_rfl) (by kernel_rfl) (by kernel_rfl) (by kernel_rfl) (by kernel_rfl) (by kernel_rfl) (by kernel_rfl) (by kernel_rfl) (by kernel_rfl) (by kernel_rfl) trivial

def te_ti105 : TI := ⟨1, 8, .other, [.junk], none⟩

theorem te_to105 : TiOk Try.prog 105 te_ti105 := tiOk_of (by kernel_rfl) (by kernel_rfl) (by kernel_rfl) (by kernel_rfl) (by kernel_rfl) (by kernel_rfl) (by kernel_rfl) (by kernel_rfl) (by kernel_rfl) (by kernel_rfl) (by kernel_rfl) trivial

def te_ti107 : TI := ⟨1, 8, .other, [.junk], none⟩

theorem te_to107 : TiOk Try.prog 107 te_ti107 := tiOk_of (by kernel_rfl) (by kernel_rfl) (by kernel_rfl) (by kernel_rfl) (by kernel_rfl) (by kernel_rfl) (by kernel_rfl) (by kernel_rfl) (by kernel_rfl) (by kernel_rfl) (by kernel_rfl) trivial

def te_ti108 : TI := ⟨1, 16, .iface, [.niface], none⟩

theorem te_to108 : TiOk Try.prog 108 te_ti108 := tiOk_of (by kernel_rfl) (by kernel_rfl) (by kernel_rfl) (by kernel_rfl) (by kernel_rfl) (by kernel_rfl) (by kernel_rfl) (by kernel_rfl) (by kernel_rfl) (by kernel_rfl) (by kernel_rfl) trivial

def te_ti109 : TI := ⟨1, 16, .iface, [.niface], none⟩

theorem te_to109 : TiOk Try.prog 109 te_ti109 := tiOk_of (by kernel_rfl) (by kernel_rfl) (by kernel_rfl) (by kernel_rfl) (by kernel_rfl) (by kernel_rfl) (by kernel_rfl) (by kernel_rfl) (by kernel_rfl) (by kernel_rfl) (by kernel_rfl) trivial

def te_ti110 : TI := ⟨1, 8, .other, [.junk], none⟩

theorem te_to110 : TiOk Try.prog 110 te_ti110 := tiOk_of (by kernel_rfl) (by kernel_rfl) (by kernel_rfl) (by kernel_rfl) (by kernel_rfl) (by kernel_rfl) (by kernel_rfl) (by kernel_rfl) (by kernel_rfl) (by kernel_rfl) (by kernel_rfl) trivial

def te_ti111 : TI := ⟨1, 8, .ptr, [.nilp], none⟩

theorem te_to111 : TiOk Try.prog 111 te_ti111 := tiOk_of (by kernel_rfl) (by kernel_rfl) (by kernel_rfl) (by kernel_rfl) (by kernel_rfl) (by kernel_rfl) (by kernel_rfl) (by kernel_rfl) (by kernel_rfl) (by kernel_rfl) (by kernel_rfl) trivial

def te_ti112 : TI := ⟨1, 8, .other, [.junk], none⟩

theorem te_to112 : TiOk Try.prog 112 te_ti112 := tiOk_of (by kernel_rfl) (by kernel_rfl) (by kernel_rfl) (by kernel_rfl) (by kernel_rfl) (by kernel_rfl) (by kernel_rfl) (by kernel_rfl) (by kernel_rfl) (by kernel_rfl) (by kernel_rfl) trivial

def te_ti115 : TI := ⟨0, 0, .array 0 16, [], none⟩

theorem te_to115 : TiOk Try.prog 115 te_ti115 := tiOk_of (by kernel_rfl) (by kernel_rfl) (by kernel_rfl) (by kernel_rfl) (by kernel_rfl) (by kernel_rfl) (by kernel_rfl) (by kernel_rfl) (by kernel_rfl) (by kernel_rfl) (by kernel_rfl) trivial

def te_ti118 : TI := ⟨1, 8, .other, [.junk], none⟩

theorem te_to118 : TiOk Try.prog 118 te_ti118 := tiOk_of (by kernel_rfl) (by kernel_rfl) (by kernel_rfl) (by kernel_rfl) (by kernel_rfl) (by kernel_rfl) (by kernel_rfl) (by kernel_rfl) (by kernel_rfl) (by kernel_rfl) (by kernel_rfl) trivial

def te_ti119 : TI := ⟨1, 4, .int .u32, [.junk], none⟩

theorem te_to119 : TiOk Try.prog 119 te_ti119 := tiOk_of (by kernel_rfl) (by kernel_rfl) (by kernel_rfl) (by kernel_rfl) (by kernel_rfl) (by kernel_rfl) (by kernel_rfl) (by kernel_rfl) (by kernel_rfl) (by kernel_rfl) (by kernel_rfl) trivial

def te : TE := (teCons 1 te_ti1 (teCons 2 te_ti2 (teCons 3 te_ti3 (teCons 4 te_ti4 (teCons 5 te_ti5 (teCons 6 te_ti6 (teCons 7 te_ti7 (teCons 8 te_ti8 (teCons 9 te_ti9 (teCons 10 te_ti10 (teCons 11 te_ti11 (teCons 12 te_ti12 (teCons 15 te_ti15 (teCons 16 te_ti16 (teCons 17 te_ti17 (teCons 20 te_ti20 (teCons 21 te_ti21 (teCons 22 te_ti22 (teCons 23 te_ti23 (teCons 24 te_ti24 (teCons 25 te_ti25 (teCons 27 te_ti27 (teCons 28 te_ti28 (teCons 29 te_ti29 (teCons 30 te_ti30 (teCons 31 te_ti31 (teCons 33 te_ti33 (teCons 34 te_ti34 (teCons 35 te_ti35 (teCons 36 te_ti36 (teCons 37 te_ti37 (teCons 38 te_ti38 (teCons 39 te_ti39 (teCons 40 te_ti40 (teCons 41 te_ti41 (teCons 42 te_ti42 (teCons 43 te_ti43 (teCons 44 te_ti44 (teCons 46 te_ti46 (teCons 47 te_ti47 (teCons 48 te_ti48 (teCons 49 te_ti49 (teCons 50 te_ti50 (teCons 51 te_ti51 (teCons 52 te_ti52 (teCons 53 te_ti53 (teCons 54 te_ti54 (teCons 55 te_ti55 (teCons 56 te_ti56 (teCons 57 te_ti57 (teCons 58 te_ti58 (teCons 59 te_ti59 (teCons 61 te_ti61 (teCons 62 te_ti62 (teCons 63 te_ti63 (teCons 64 te_ti64 (teCons 65 te_ti65 (teCons 66 te_ti66 (teCons 67 te_ti67 (teCons 68 te_ti68 (teCons 69 te_ti69 (teCons 70 te_ti70 (teCons 71 te_ti71 (teCons 72 te_ti72 (teCons 73 te_ti73 (teCons 74 te_ti74 (teCons 75 te_ti75 (teCons 76 te_ti76 (teCons 77 te_ti77 (teCons 78 te_ti78 (teCons 79 te_ti79 (teCons 80 te_ti80 (teCons 81 te_ti81 (teCons 82 te_ti82 (teCons 83 te_ti83 (teCons 84 te_ti84 (teCons 86 te_ti86 (teCons 87 te_ti87 (teCons 88 te_ti88 (teCons 89 te_ti89 (teCons 90 te_ti90 (teCons 91 te_ti91 (teCons 92 te_ti92 (teCons 93 te_ti93 (teCons 94 te_ti94 (teCons 95 te_ti95 (teCons 96 te_ti96 (teCons 97 te_ti97 (teCons 98 te_ti98 (teCons 99 te_ti99 (teCons 100 te_ti100 (teCons 102 te_ti102 (teCons 103 te_ti103 (teCons 105 te_ti105 (teCons 107 te_ti107 (teCons 108 te_ti108 (teCons 109 te_ti109 (teCons 110 te_ti110 (teCons 111 te_ti111 (teCons 112 te_ti112 (teCons 115 te_ti115 (teCons 118 te_ti118 (teCons 119 te_ti119 teNil)))))))))))))))))))))))))))))))))))))))))))))))))))))))))))))))))))))))))))))))))))))))))))))))))))))))

theorem te_ok : TeOk Try.prog te := (teOk_cons te_to1 (teOk_cons te_to2 (teOk_cons te_to3 (teOk_cons te_to4 (teOk_cons te_to5 (teOk_cons te_to6 (teOk_cons te_to7 (teOk_cons te_to8 (teOk_cons te_to9 (teOk_cons te_to10 (teOk_cons te_to11 (teOk_cons te_to12 (teOk_cons te_to15 (teOk_cons te_to16 (teOk_cons te_to17 (teOk_cons te_to20 (teOk_cons te_to21 (teOk_cons te_to22 (teOk_cons te_to23 (teOk_cons te_to24 (teOk_cons te_to25 (teOk_cons te_to27 (teOk_cons te_to28 (teOk_cons te_to29 (teOk_cons te_to30 (teOk_cons te_to31 (teOk_cons te_to33 (teOk_cons te_to34 (teOk_cons te_to35 (teOk_cons te_to36 (teOk_cons te_to37 (teOk_cons te_to38 (teOk_cons te_to39 (teOk_cons te_to40 (teOk_cons te_to41 (teOk_cons te_to42 (teOk_cons te_to43 (teOk_cons te_to44 (teOk_cons te_to46 (teOk_cons te_to47 (teOk_cons te_to48 (teOk_cons te_to49 (teOk_cons te_to50 (teOk_cons te_to51 (teOk_cons te_to52 (teOk_cons te_to53 (teOk_cons te_to54 (teOk_cons te_to55 (teOk_cons te_to56 (teOk_cons te_to57 (teOk_cons te_to58 (teOk_cons te_to59 (teOk_cons te_to61 (teOk_cons te_to62 (teOk_cons te_to63 (teOk_cons te_to64 (teOk_cons te_to65 (teOk_cons te_to66 (teOk_cons te_to67 (teOk_cons te_to68 (teOk_cons te_to69 (teOk_cons te_to70 (teOk_cons te_to71 (teOk_cons te_to72 (teOk_cons te_to73 (teOk_cons te_to74 (teOk_cons te_to75 (teOk_cons te_to76 (teOk_cons te_to77 (teOk_cons te_to78 (teOk_cons te_to79 (teOk_cons te_to80 (teOk_cons te_to81 (teOk_cons te_to82 (teOk_cons te_to83 (teOk_cons te_to84 (teOk_cons te_to86 (teOk_cons te_to87 (teOk_cons te_to88 (teOk_cons te_to89 (teOk_cons te_to90 (teOk_cons te_to91 (teOk_cons te_to92 (teOk_cons te_to93 (teOk_cons te_to94 (teOk_cons te_to95 (teOk_cons te_to96 (teOk_cons te_to97 (teOk_cons te_to98 (teOk_cons te_to99 (teOk_cons te_to100 (teOk_cons te_to102 (teOk_cons te_to103 (teOk_cons te_to105 (teOk_cons te_to107 (teOk_cons te_to108 (teOk_cons te_to109 (teOk_cons te_to110 (teOk_cons te_to111 (teOk_cons te_to112 (teOk_cons te_to115 (teOk_cons te_to118 (teOk_cons te_to119 teOk_nil)))))))))))))))))))))))))))))))))))))))))))))))))))))))))))))))))))))))))))))))))))))))))))))))))))))))

theorem follows : Try.prog.follows .mixedOrders = true := by kernel_rfl
def E0 : Env := envNil
theorem E0_ok : EnvOk Try.prog E0 := envOk_nil
theorem E0_mono : EnvMono E0 := envMono_nil
theorem E0_any : AnyOk Try.prog te E0 := any_ok follows te_ok E0_ok E0_mono
end Go.Proofs.Ytkngdfhigpjciaa

/- Plain words for digests. No statement of a seat is proved here. -/
namespace Go.Proofs.Ytkngdfhigpjciaa
open Sx Go

/-- The first bytes of a list as a word, the least first. -/
def wordK (b : List UInt8) (k : Nat) : UInt64 := (List.range k).foldl (fun v (i : Nat) => v ||| shl64 (UInt8.toUInt64 (b.getD i 0)) (8 * (i : Int))) 0

theorem wordK_succ (b : List UInt8) (k : Nat) : wordK b (k + 1) = wordK b k ||| shl64 (UInt8.toUInt64 (b.getD k 0)) (8 * (k : Int)) := by
  simp [wordK, List.range_succ]

end Go.Proofs.Ytkngdfhigpjciaa

/- The function sigil/blake.word: what it makes of its arguments. No statement of a seat is proved here. -/
namespace Go.Proofs.Ytkngdfhigpjciaa
open Sx Go
set_option maxRecDepth 100000

def bword_S : FnSpec := ⟨[.val false (.list .u8)], [], true, 0, false⟩

abbrev bwordX : Type := ((List (UInt8)) × Unit) × (Unit)

def bword_s0 : Shape := ⟨22, [(3, .val false .u64), (6, .val false (.list .u8)), (7, .val false .int), (8, .val false .int)], [], 0, true⟩

abbrev bword_s0X : Type := ((UInt64) × (List (UInt8)) × (Int) × (Int) × Unit) × (Unit)

def bword_e0_0 : Shape := ⟨22, [(3, .val false .u64)], [], 0, true⟩

abbrev bword_e0_0X : Type := ((UInt64) × Unit) × (Unit)

def bword_x0 : SE → Option Shape := xsMk [(0, bword_e0_0)] none

def bword_T0 (a3 : UInt64) (a6 : List (UInt8)) (a7 : Int) (a8 : Int) : OT (Sum bword_s0X LEnd) :=
  (.br (decide (a8 < a7))
  (gd [inB a8 (List.length a6), inR ((8 : Int) * a8), decide ((0 : Int) ≤ (8 : Int) * a8), inR (a8 + (1 : Int))] (.ok (.inl ((a3 ||| shl64 (UInt8.toUInt64 (List.getD a6 (Int.toNat a8) (0 : UInt8))) ((8 : Int) * a8), (a6, (a7, (a8 + (1 : Int), ())))), ()))))
  (.ok (.inr ⟨(.exit 0, bword_e0_0), ((a3, ()), ())⟩)))

def bword_U0 (s : bword_s0X) : OT (Sum bword_s0X LEnd) := bword_T0 (s.1.1) (s.1.2.1) (s.1.2.2.1) (s.1.2.2.2.1)

theorem bword_q0 (s : bword_s0X) (Q : Sum bword_s0X LEnd → Prop) : wps te E0 lamNil 1000 (loopOf (codeOf Try.f24) 0) (bword_s0.inj s) (stepK bword_s0 bword_x0 (Q : Sum bword_s0.T LEnd → Prop)) = (bword_U0 s).wpR Q := by kernel_rfl

def bword_f0 (g0_0 : bword_s0X → bword_e0_0X) (s : bword_s0X) : OT LEnd := (.ok ⟨(.exit 0, bword_e0_0), g0_0 s⟩)

def bword_o0 : OutSh := ⟨[.val false .u64], [], false⟩

def bword_sel : SV → Option OutSh := fun _ => some bword_o0

def bword_T (ok0 : bword_s0X → Bool) (g0_0 : bword_s0X → bword_e0_0X) (a0 : List (UInt8)) : OT bword_S.Y :=
  let z0 : (UInt64 × List UInt8 × Int × Int × PUnit) × PUnit := (((0 : UInt64), a0, (↑(List.length a0) : Int), (0 : Int), ()), ())
  (gd [ok0 z0] (.ok ⟨bword_o0, (((g0_0 z0).fst.fst, ()), ())⟩))

theorem bword_q (ok0 : bword_s0X → Bool) (g0_0 : bword_s0X → bword_e0_0X) (x : bwordX) (Q : bword_S.Y → Prop) : wpf te E0 (lamCons 0 (loopF bword_s0 0 ok0 (bword_f0 g0_0)) lamNil) 1000 Try.f24 (bword_S.inp.inj x).tm (bword_S.inp.inj x).hp (fnK bword_S bword_sel Q) (fun _ _ => False) = (bword_T ok0 g0_0 (x.1.1)).wpR Q := by kernel_rfl

theorem bword_main (ok0 : bword_s0X → Bool) (g0_0 : bword_s0X → bword_e0_0X) (h0 : ∀ s : bword_s0X, ok0 s = true → ∃ m e, loopRun (bword_U0) m s = some e ∧ (bword_f0 g0_0 s).run = some e) (pre : bwordX → Bool) (F : bwordX → OT bword_S.Y) (hF : ∀ (x : bwordX) oy, pre x = true → (F x).run = some oy → (bword_T ok0 g0_0 (x.1.1)).run = some oy) : SummOk Try.prog 24 (bword_S.summ pre F) :=
  fn_tree te_ok E0_ok E0_any (f := 24) (fn := Try.f24) (c := codeOf Try.f24) (by kernel_rfl) (by kernel_rfl) (by kernel_rfl) (S := bword_S) (k := 0) (by kernel_rfl) (fun R hR => (lamOk_cons (c := (codeOf Try.f24)) (by kernel_rfl) (id := 0) (by kernel_rfl) (loop_ok te_ok E0_ok E0_any (sh := bword_s0) hR (xs := bword_x0) (xsMk_small (by kernel_rfl) (by kernel_rfl) hR) xsMk_pan lamOk_nil (n := 1000) (T := bword_U0) (fun s Q => bword_q0 s Q) (ok := ok0) (f := bword_f0 g0_0) h0) lamOk_nil)) (n := 1000) (sel := bword_sel) (fun v o h => by cases h; rfl) (pre := pre) (F := F) (T := fun x => bword_T ok0 g0_0 (x.1.1)) (fun x Q => bword_q ok0 g0_0 x Q) hF

def bword_ok0 (s : bword_s0X) : Bool := decide (s.1.1 = 0 ∧ s.1.2.2.1 = (s.1.2.1.length : Int) ∧ s.1.2.2.2.1 = 0 ∧ s.1.2.1.length ≤ 4096)
def bword_g0 (s : bword_s0X) : bword_e0_0X := ((wordK s.1.2.1 s.1.2.1.length, ()), ())

theorem bword_h0 : ∀ s, bword_ok0 s = true → ∃ m e, loopRun bword_U0 m s = some e ∧ (bword_f0 bword_g0 s).run = some e := by
  rintro ⟨⟨v, b, n, i, ⟨⟩⟩, ⟨⟩⟩ h
  have h' := of_decide_eq_true h
  dsimp only at h'
  obtain ⟨rfl, rfl, rfl, hl⟩ := h'
  have := loopRun_for (T := bword_U0) (fun k => ((wordK b k, b, (b.length : Int), (k : Int), ()), ())) b.length (e := ⟨(.exit 0, bword_e0_0), ((wordK b b.length, ()), ())⟩) (fun k hk => ?_) ?_ 0 (Nat.zero_le _)
  · obtain ⟨m, hm⟩ := this
    exact ⟨m, _, hm, rfl⟩
  · unfold bword_U0 bword_T0
    dsimp only
    rw [OT.run_t (decide_eq_true (by omega)), gd_run (by simp; exact ⟨inB_of (by omega), inR_of (by omega), by omega, inR_of (by omega)⟩), OT.run_ok, wordK_succ]
    rfl
  · unfold bword_U0 bword_T0
    dsimp only
    rw [OT.run_f (decide_eq_false (by omega)), OT.run_ok]

def bword_pre (x : bwordX) : Bool := decide (x.1.1.length ≤ 4096)
def bword_F (x : bwordX) : OT bword_S.Y := .ok ⟨bword_o0, ((wordK x.1.1 x.1.1.length, ()), ())⟩

theorem bword_ok : SummOk Try.prog 24 (bword_S.summ bword_pre bword_F) := bword_main bword_ok0 bword_g0 bword_h0 _ _ fun x oy hp ho => by
  rw [← ho]
  have hp' := of_decide_eq_true hp
  refine (OT.run_t ?_).trans ?_
  · exact decide_eq_true ⟨rfl, rfl, rfl, hp'⟩
  · rfl

theorem bword_known : SummOk Try.prog 24 (bword_S.summ bword_pre bword_F) := bword_ok

def E_bword : Env := envCons 24 (bword_S.summ bword_pre bword_F) E0
theorem E_bword_ok : EnvOk Try.prog E_bword := envOk_cons bword_known E0_ok
theorem E_bword_mono : EnvMono E_bword := envMono_cons fn_mono E0_mono
theorem E_bword_any : AnyOk Try.prog te E_bword := any_ok follows te_ok E_bword_ok E_bword_mono

end Go.Proofs.Ytkngdfhigpjciaa

/- The function math/bits.RotateLeft64: what it makes of its arguments. No statement of a seat is proved here. -/
namespace Go.Proofs.Ytkngdfhigpjciaa
open Sx Go
set_option maxRecDepth 100000

def rotl_S : FnSpec := ⟨[.val false .u64, .val false .int], [], true, 0, false⟩

abbrev rotlX : Type := ((UInt64) × (Int) × Unit) × (Unit)

def rotl_o0 : OutSh := ⟨[.val false .u64], [], false⟩

def rotl_sel : SV → Option OutSh := fun _ => some rotl_o0

def rotl_T (a0 : UInt64) (a1 : Int) : OT rotl_S.Y :=
  (.ok ⟨rotl_o0, ((shl64 a0 (↑(UInt64.toNat (i2u a1 &&& (63 : UInt64))) : Int) ||| shr64 a0 (↑(UInt64.toNat ((64 : UInt64) - (i2u a1 &&& (63 : UInt64)))) : Int), ()), ())⟩)

theorem rotl_q (x : rotlX) (Q : rotl_S.Y → Prop) : wpf te E_bword lamNil 1000 Try.f42 (rotl_S.inp.inj x).tm (rotl_S.inp.inj x).hp (fnK rotl_S rotl_sel Q) (fun _ _ => False) = (rotl_T (x.1.1) (x.1.2.1)).wpR Q := by kernel_rfl

theorem rotl_main (pre : rotlX → Bool) (F : rotlX → OT rotl_S.Y) (hF : ∀ (x : rotlX) oy, pre x = true → (F x).run = some oy → (rotl_T (x.1.1) (x.1.2.1)).run = some oy) : SummOk Try.prog 42 (rotl_S.summ pre F) :=
  fn_tree te_ok E_bword_ok E_bword_any (f := 42) (fn := Try.f42) (c := codeOf Try.f42) (by kernel_rfl) (by kernel_rfl) (by kernel_rfl) (S := rotl_S) (k := 0) (by kernel_rfl) (fun R hR => lamOk_nil) (n := 1000) (sel := rotl_sel) (fun v o h => by cases h; rfl) (pre := pre) (F := F) (T := fun x => rotl_T (x.1.1) (x.1.2.1)) (fun x Q => rotl_q x Q) hF

def rotl (a : UInt64) (n : Int) : UInt64 := shl64 a (UInt64.toNat (i2u n &&& 63) : Int) ||| shr64 a (UInt64.toNat (64 - (i2u n &&& 63)) : Int)
def rotl_pre (_ : rotlX) : Bool := true
def rotl_F (x : rotlX) : OT rotl_S.Y := .ok ⟨rotl_o0, ((rotl x.1.1 x.1.2.1, ()), ())⟩
theorem rotl_ok : SummOk Try.prog 42 (rotl_S.summ rotl_pre rotl_F) := rotl_main _ _ fun x oy _ ho => ho

theorem rotl_known : SummOk Try.prog 42 (rotl_S.summ rotl_pre rotl_F) := rotl_ok

def E_rotl : Env := envCons 42 (rotl_S.summ rotl_pre rotl_F) E_bword
theorem E_rotl_ok : EnvOk Try.prog E_rotl := envOk_cons rotl_known E_bword_ok
theorem E_rotl_mono : EnvMono E_rotl := envMono_cons fn_mono E_bword_mono
theorem E_rotl_any : AnyOk Try.prog te E_rotl := any_ok follows te_ok E_rotl_ok E_rotl_mono

end Go.Proofs.Ytkngdfhigpjciaa

/- The function sigil/blake.nibble: what it makes of its arguments. No statement of a seat is proved here. -/
namespace Go.Proofs.Ytkngdfhigpjciaa
open Sx Go
set_option maxRecDepth 100000

def bnib_S : FnSpec := ⟨[.val false .u8], [], true, 0, false⟩

abbrev bnibX : Type := ((UInt8) × Unit) × (Unit)

def bnib_o0 : OutSh := ⟨[.val false .int], [], false⟩

def bnib_sel : SV → Option OutSh := fun _ => some bnib_o0

def bnib_T (a0 : UInt8) : OT bnib_S.Y :=
  (.br (decide ((97 : UInt8) ≤ a0))
  (gd [inR ((↑(UInt8.toNat (a0 - (97 : UInt8))) : Int) + (10 : Int))] (.ok ⟨bnib_o0, (((↑(UInt8.toNat (a0 - (97 : UInt8))) : Int) + (10 : Int), ()), ())⟩))
  (.ok ⟨bnib_o0, (((↑(UInt8.toNat (a0 - (48 : UInt8))) : Int), ()), ())⟩))

theorem bnib_q (x : bnibX) (Q : bnib_S.Y → Prop) : wpf te E_rotl lamNil 1000 Try.f36 (bnib_S.inp.inj x).tm (bnib_S.inp.inj x).hp (fnK bnib_S bnib_sel Q) (fun _ _ => False) = (bnib_T (x.1.1)).wpR Q := by kernel_rfl

theorem bnib_main (pre : bnibX → Bool) (F : bnibX → OT bnib_S.Y) (hF : ∀ (x : bnibX) oy, pre x = true → (F x).run = some oy → (bnib_T (x.1.1)).run = some oy) : SummOk Try.prog 36 (bnib_S.summ pre F) :=
  fn_tree te_ok E_rotl_ok E_rotl_any (f := 36) (fn := Try.f36) (c := codeOf Try.f36) (by kernel_rfl) (by kernel_rfl) (by kernel_rfl) (S := bnib_S) (k := 0) (by kernel_rfl) (fun R hR => lamOk_nil) (n := 1000) (sel := bnib_sel) (fun v o h => by cases h; rfl) (pre := pre) (F := F) (T := fun x => bnib_T (x.1.1)) (fun x Q => bnib_q x Q) hF

def nib (c : UInt8) : Int := if 97 ≤ c then (UInt8.toNat (c - 97) : Int) + 10 else (UInt8.toNat (c - 48) : Int)
def bnib_pre (_ : bnibX) : Bool := true
def bnib_F (x : bnibX) : OT bnib_S.Y := .ok ⟨bnib_o0, ((nib x.1.1, ()), ())⟩
theorem bnib_ok : SummOk Try.prog 36 (bnib_S.summ bnib_pre bnib_F) := bnib_main _ _ fun x oy _ ho => by
  rw [← ho]
  have hlt := (x.1.1 - 97).toNat_lt
  by_cases h : 97 ≤ x.1.1
  · refine (OT.run_t (decide_eq_true h)).trans ((gd_run (by simp; exact inR_of (by omega))).trans ?_)
    simp only [bnib_F, nib, if_pos h]
  · refine (OT.run_f (decide_eq_false h)).trans ?_
    simp only [bnib_F, nib, if_neg h]

theorem bnib_known : SummOk Try.prog 36 (bnib_S.summ bnib_pre bnib_F) := bnib_ok

def E_bnib : Env := envCons 36 (bnib_S.summ bnib_pre bnib_F) E_rotl
theorem E_bnib_ok : EnvOk Try.prog E_bnib := envOk_cons bnib_known E_rotl_ok
theorem E_bnib_mono : EnvMono E_bnib := envMono_cons fn_mono E_rotl_mono
theorem E_bnib_any : AnyOk Try.prog te E_bnib := any_ok follows te_ok E_bnib_ok E_bnib_mono

end Go.Proofs.Ytkngdfhigpjciaa

/- The function sigil/blake.start: what it makes of its arguments. No statement of a seat is proved here. -/
namespace Go.Proofs.Ytkngdfhigpjciaa
open Sx Go
set_option maxRecDepth 100000

def bstart_S : FnSpec := ⟨[], [], true, 0, false⟩

abbrev bstartX : Type := (Unit) × (Unit)

def bstart_o0 : OutSh := ⟨[.val true (.arr 8 .u64)], [], false⟩

def bstart_sel : SV → Option OutSh := fun _ => some bstart_o0

def bstart_T : OT bstart_S.Y :=
  (.ok ⟨bstart_o0, (([(7640891576956012808 : UInt64), (13503953896175478587 : UInt64), (4354685564936845355 : UInt64), (11912009170470909681 : UInt64), (5840696475078001361 : UInt64), (11170449401992604703 : UInt64), (2270897969802886507 : UInt64), (6620516959819538809 : UInt64)], ()), ())⟩)

theorem bstart_q (x : bstartX) (Q : bstart_S.Y → Prop) : wpf te E_bnib lamNil 1000 Try.f23 (bstart_S.inp.inj x).tm (bstart_S.inp.inj x).hp (fnK bstart_S bstart_sel Q) (fun _ _ => False) = (bstart_T).wpR Q := by kernel_rfl

theorem bstart_main (pre : bstartX → Bool) (F : bstartX → OT bstart_S.Y) (hF : ∀ (x : bstartX) oy, pre x = true → (F x).run = some oy → (bstart_T).run = some oy) : SummOk Try.prog 23 (bstart_S.summ pre F) :=
  fn_tree te_ok E_bnib_ok E_bnib_any (f := 23) (fn := Try.f23) (c := codeOf Try.f23) (by kernel_rfl) (by kernel_rfl) (by kernel_rfl) (S := bstart_S) (k := 0) (by kernel_rfl) (fun R hR => lamOk_nil) (n := 1000) (sel := bstart_sel) (fun v o h => by cases h; rfl) (pre := pre) (F := F) (T := fun x => bstart_T) (fun x Q => bstart_q x Q) hF

def bIV : List UInt64 := [0x6a09e667f3bcc908, 0xbb67ae8584caa73b, 0x3c6ef372fe94f82b, 0xa54ff53a5f1d36f1, 0x510e527fade682d1, 0x9b05688c2b3e6c1f, 0x1f83d9abfb41bd6b, 0x5be0cd19137e2179]
def bstart_pre (_ : bstartX) : Bool := true
def bstart_F (_ : bstartX) : OT bstart_S.Y := .ok ⟨bstart_o0, ((bIV, ()), ())⟩
theorem bstart_ok : SummOk Try.prog 23 (bstart_S.summ bstart_pre bstart_F) := bstart_main _ _ fun x oy _ ho => ho

theorem bstart_known : SummOk Try.prog 23 (bstart_S.summ bstart_pre bstart_F) := bstart_ok

def E_bstart : Env := envCons 23 (bstart_S.summ bstart_pre bstart_F) E_bnib
theorem E_bstart_ok : EnvOk Try.prog E_bstart := envOk_cons bstart_known E_bnib_ok
theorem E_bstart_mono : EnvMono E_bstart := envMono_cons fn_mono E_bnib_mono
theorem E_bstart_any : AnyOk Try.prog te E_bstart := any_ok follows te_ok E_bstart_ok E_bstart_mono

end Go.Proofs.Ytkngdfhigpjciaa

/- The function sigil/blake.schedule: what it makes of its arguments. No statement of a seat is proved here. -/
namespace Go.Proofs.Ytkngdfhigpjciaa
open Sx Go
set_option maxRecDepth 100000

def bsched_S : FnSpec := ⟨[], [], true, 0, false⟩

abbrev bschedX : Type := (Unit) × (Unit)

def bsched_o0 : OutSh := ⟨[.val true (.arr 10 .str)], [], false⟩

def bsched_sel : SV → Option OutSh := fun _ => some bsched_o0

def bsched_T : OT bsched_S.Y :=
  (.ok ⟨bsched_o0, (([[(48 : UInt8), (49 : UInt8), (50 : UInt8), (51 : UInt8), (52 : UInt8), (53 : UInt8), (54 : UInt8), (55 : UInt8), (56 : UInt8), (57 : UInt8), (97 : UInt8), (98 : UInt8), (99 : UInt8), (100 : UInt8), (101 : UInt8), (102 : UInt8)], [(101 : UInt8), (97 : UInt8), (52 : UInt8), (56 : UInt8), (57 : UInt8), (102 : UInt8), (100 : UInt8), (54 : UInt8), (49 : UInt8), (99 : UInt8), (48 : UInt8), (50 : UInt8), (98 : UInt8), (55 : UInt8), (53 : UInt8), (51 : UInt8)], [(98 : UInt8), (56 : UInt8), (99 : UInt8), (48 : UInt8), (53 : UInt8), (50 : UInt8), (102 : UInt8), (100 : UInt8), (97 : UInt8), (101 : UInt8), (51 : UInt8), (54 : UInt8), (55 : UInt8), (49 : UInt8), (57 : UInt8), (52 : UInt8)], [(55 : UInt8), (57 : UInt8), (51 : UInt8), (49 : UInt8), (100 : UInt8), (99 : UInt8), (98 : UInt8), (101 : UInt8), (50 : UInt8), (54 : UInt8), (53 : UInt8), (97 : UInt8), (52 : UInt8), (48 : UInt8), (102 : UInt8), (56 : UInt8)], [(57 : UInt8), (48 : UInt8), (53 : UInt8), (55 : UInt8), (50 : UInt8), (52 : UInt8), (97 : UInt8), (102 : UInt8), (101 : UInt8), (49 : UInt8), (98 : UInt8), (99 : UInt8), (54 : UInt8), (56 : UInt8), (51 : UInt8), (100 : UInt8)], [(50 : UInt8), (99 : UInt8), (54 : UInt8), (97 : UInt8), (48 : UInt8), (98 : UInt8), (56 : UInt8), (51 : UInt8), (52 : UInt8), (100 : UInt8), (55 : UInt8), (53 : UInt8), (102 : UInt8), (101 : UInt8), (49 : UInt8), (57 : UInt8)], [(99 : UInt8), (53 : UInt8), (49 : UInt8), (102 : UInt8), (101 : UInt8), (100 : UInt8), (52 : UInt8), (97 : UInt8), (48 : UInt8), (55 : UInt8), (54 : UInt8), (51 : UInt8), (57 : UInt8), (50 : UInt8), (56 : UInt8), (98 : UInt8)], [(100 : UInt8), (98 : UInt8), (55 : UInt8), (101 : UInt8), (99 : UInt8), (49 : UInt8), (51 : UInt8), (57 : UInt8), (53 : UInt8), (48 : UInt8), (102 : UInt8), (52 : UInt8), (56 : UInt8), (54 : UInt8), (50 : UInt8), (97 : UInt8)], [(54 : UInt8), (102 : UInt8), (101 : UInt8), (57 : UInt8), (98 : UInt8), (51 : UInt8), (48 : UInt8), (56 : UInt8), (99 : UInt8), (50 : UInt8), (100 : UInt8), (55 : UInt8), (49 : UInt8), (52 : UInt8), (97 : UInt8), (53 : UInt8)], [(97 : UInt8), (50 : UInt8), (56 : UInt8), (52 : UInt8), (55 : UInt8), (54 : UInt8), (49 : UInt8), (53 : UInt8), (102 : UInt8), (98 : UInt8), (57 : UInt8), (101 : UInt8), (51 : UInt8), (99 : UInt8), (100 : UInt8), (48 : UInt8)]], ()), ())⟩)

theorem bsched_q (x : bschedX) (Q : bsched_S.Y → Prop) : wpf te E_bstart lamNil 1000 Try.f34 (bsched_S.inp.inj x).tm (bsched_S.inp.inj x).hp (fnK bsched_S bsched_sel Q) (fun _ _ => False) = (bsched_T).wpR Q := by kernel_rfl

theorem bsched_main (pre : bschedX → Bool) (F : bschedX → OT bsched_S.Y) (hF : ∀ (x : bschedX) oy, pre x = true → (F x).run = some oy → (bsched_T).run = some oy) : SummOk Try.prog 34 (bsched_S.summ pre F) :=
  fn_tree te_ok E_bstart_ok E_bstart_any (f := 34) (fn := Try.f34) (c := codeOf Try.f34) (by kernel_rfl) (by kernel_rfl) (by kernel_rfl) (S := bsched_S) (k := 0) (by kernel_rfl) (fun R hR => lamOk_nil) (n := 1000) (sel := bsched_sel) (fun v o h => by cases h; rfl) (pre := pre) (F := F) (T := fun x => bsched_T) (fun x Q => bsched_q x Q) hF

def bSched : List (List UInt8) := [[48, 49, 50, 51, 52, 53, 54, 55, 56, 57, 97, 98, 99, 100, 101, 102],
  [101, 97, 52, 56, 57, 102, 100, 54, 49, 99, 48, 50, 98, 55, 53, 51],
  [98, 56, 99, 48, 53, 50, 102, 100, 97, 101, 51, 54, 55, 49, 57, 52],
  [55, 57, 51, 49, 100, 99, 98, 101, 50, 54, 53, 97, 52, 48, 102, 56],
  [57, 48, 53, 55, 50, 52, 97, 102, 101, 49, 98, 99, 54, 56, 51, 100],
  [50, 99, 54, 97, 48, 98, 56, 51, 52, 100, 55, 53, 102, 101, 49, 57],
  [99, 53, 49, 102, 101, 100, 52, 97, 48, 55, 54, 51, 57, 50, 56, 98],
  [100, 98, 55, 101, 99, 49, 51, 57, 53, 48, 102, 52, 56, 54, 50, 97],
  [54, 102, 101, 57, 98, 51, 48, 56, 99, 50, 100, 55, 49, 52, 97, 53],
  [97, 50, 56, 52, 55, 54, 49, 53, 102, 98, 57, 101, 51, 99, 100, 48]]
def bsched_pre (_ : bschedX) : Bool := true
def bsched_F (_ : bschedX) : OT bsched_S.Y := .ok ⟨bsched_o0, ((bSched, ()), ())⟩
theorem bsched_ok : SummOk Try.prog 34 (bsched_S.summ bsched_pre bsched_F) := bsched_main _ _ fun x oy _ ho => ho

theorem bsched_known : SummOk Try.prog 34 (bsched_S.summ bsched_pre bsched_F) := bsched_ok

def E_bsched : Env := envCons 34 (bsched_S.summ bsched_pre bsched_F) E_bstart
theorem E_bsched_ok : EnvOk Try.prog E_bsched := envOk_cons bsched_known E_bstart_ok
theorem E_bsched_mono : EnvMono E_bsched := envMono_cons fn_mono E_bstart_mono
theorem E_bsched_any : AnyOk Try.prog te E_bsched := any_ok follows te_ok E_bsched_ok E_bsched_mono

end Go.Proofs.Ytkngdfhigpjciaa

/- The function (*sigil/blake.lanes).mix: what it makes of its arguments. No statement of a seat is proved here. -/
namespace Go.Proofs.Ytkngdfhigpjciaa
open Sx Go
set_option maxRecDepth 100000

def bmix_S : FnSpec := ⟨[.ptr 0 0 0, .val false .int, .val false .int, .val false .int, .val false .int, .val false .u64, .val false .u64], [(0, .row .u64)], false, 1, true⟩

abbrev bmixX : Type := ((Unit) × (Int) × (Int) × (Int) × (Int) × (UInt64) × (UInt64) × Unit) × ((List (UInt64)) × Unit)

def bmix_o0 : OutSh := ⟨[], [(0, .row .u64)], false⟩

def bmix_sel : SV → Option OutSh := fun _ => some bmix_o0

def bmix_T (a1 : Int) (a2 : Int) (a3 : Int) (a4 : Int) (a5 : UInt64) (a6 : UInt64) (c0 : List (UInt64)) : OT bmix_S.Y :=
  let z0 : Bool := inB a1 (16 : Nat)
  let z1 : Nat := List.length c0
  let z2 : Bool := decide (Int.toNat a1 + (0 : Nat) < z1)
  let z3 : Bool := inB a2 (16 : Nat)
  let z4 : Bool := inB a4 (16 : Nat)
  let z5 : List UInt64 := List.set c0 (Int.toNat a1 + (0 : Nat)) (List.getD c0 (Int.toNat a1 + (0 : Nat)) (0 : UInt64) + (List.getD c0 (Int.toNat a2 + (0 : Nat)) (0 : UInt64) + a5))
  let z6 : Nat := List.length z5
  let z7 : Bool := decide (Int.toNat a4 + (0 : Nat) < z6)
  let z8 : Bool := inB a3 (16 : Nat)
  let z9 : List UInt64 := List.set z5 (Int.toNat a4 + (0 : Nat)) (rotl (List.getD z5 (Int.toNat a4 + (0 : Nat)) (0 : UInt64) ^^^ List.getD z5 (Int.toNat a1 + (0 : Nat)) (0 : UInt64)) (-32 : Int))
  let z10 : Nat := List.length z9
  let z11 : Bool := decide (Int.toNat a3 + (0 : Nat) < z10)
  let z12 : List UInt64 := List.set z9 (Int.toNat a3 + (0 : Nat)) (List.getD z9 (Int.toNat a3 + (0 : Nat)) (0 : UInt64) + List.getD z9 (Int.toNat a4 + (0 : Nat)) (0 : UInt64))
  let z13 : Nat := List.length z12
  let z14 : Bool := decide (Int.toNat a2 + (0 : Nat) < z13)
  let z15 : List UInt64 := List.set z12 (Int.toNat a2 + (0 : Nat)) (rotl (List.getD z12 (Int.toNat a2 + (0 : Nat)) (0 : UInt64) ^^^ List.getD z12 (Int.toNat a3 + (0 : Nat)) (0 : UInt64)) (-24 : Int))
  let z16 : Nat := List.length z15
  let z17 : Bool := decide (Int.toNat a1 + (0 : Nat) < z16)
  let z18 : List UInt64 := List.set z15 (Int.toNat a1 + (0 : Nat)) (List.getD z15 (Int.toNat a1 + (0 : Nat)) (0 : UInt64) + (List.getD z15 (Int.toNat a2 + (0 : Nat)) (0 : UInt64) + a6))
  let z19 : Nat := List.length z18
  let z20 : Bool := decide (Int.toNat a4 + (0 : Nat) < z19)
  let z21 : List UInt64 := List.set z18 (Int.toNat a4 + (0 : Nat)) (rotl (List.getD z18 (Int.toNat a4 + (0 : Nat)) (0 : UInt64) ^^^ List.getD z18 (Int.toNat a1 + (0 : Nat)) (0 : UInt64)) (-16 : Int))
  let z22 : Nat := List.length z21
  let z23 : Bool := decide (Int.toNat a3 + (0 : Nat) < z22)
  let z24 : List UInt64 := List.set z21 (Int.toNat a3 + (0 : Nat)) (List.getD z21 (Int.toNat a3 + (0 : Nat)) (0 : UInt64) + List.getD z21 (Int.toNat a4 + (0 : Nat)) (0 : UInt64))
  let z25 : Nat := List.length z24
  let z26 : Bool := decide (Int.toNat a2 + (0 : Nat) < z25)
  (gd [z0, z2, z3, decide (Int.toNat a2 + (0 : Nat) < z1), z0, z2, z4, z7, z0, decide (Int.toNat a1 + (0 : Nat) < z6), z4, z7, z8, z11, z4, decide (Int.toNat a4 + (0 : Nat) < z10), z8, z11, z3, z14, z8, decide (Int.toNat a3 + (0 : Nat) < z13), z3, z14, z0, z17, z3, decide (Int.toNat a2 + (0 : Nat) < z16), z0, z17, z4, z20, z0, decide (Int.toNat a1 + (0 : Nat) < z19), z4, z20, z8, z23, z4, decide (Int.toNat a4 + (0 : Nat) < z22), z8, z23, z3, z26, z8, decide (Int.toNat a3 + (0 : Nat) < z25), z3, z26] (.ok ⟨bmix_o0, ((), (List.set z24 (Int.toNat a2 + (0 : Nat)) (rotl (List.getD z24 (Int.toNat a2 + (0 : Nat)) (0 : UInt64) ^^^ List.getD z24 (Int.toNat a3 + (0 : Nat)) (0 : UInt64)) (-63 : Int)), ()))⟩))

theorem bmix_q (x : bmixX) (Q : bmix_S.Y → Prop) : wpf te E_bsched lamNil 1000 Try.f37 (bmix_S.inp.inj x).tm (bmix_S.inp.inj x).hp (fnK bmix_S bmix_sel Q) (fun _ _ => False) = (bmix_T (x.1.2.1) (x.1.2.2.1) (x.1.2.2.2.1) (x.1.2.2.2.2.1) (x.1.2.2.2.2.2.1) (x.1.2.2.2.2.2.2.1) (x.2.1)).wpR Q := by kernel_rfl

theorem bmix_main (pre : bmixX → Bool) (F : bmixX → OT bmix_S.Y) (hF : ∀ (x : bmixX) oy, pre x = true → (F x).run = some oy → (bmix_T (x.1.2.1) (x.1.2.2.1) (x.1.2.2.2.1) (x.1.2.2.2.2.1) (x.1.2.2.2.2.2.1) (x.1.2.2.2.2.2.2.1) (x.2.1)).run = some oy) : SummOk Try.prog 37 (bmix_S.summ pre F) :=
  fn_tree te_ok E_bsched_ok E_bsched_any (f := 37) (fn := Try.f37) (c := codeOf Try.f37) (by kernel_rfl) (by kernel_rfl) (by kernel_rfl) (S := bmix_S) (k := 1) (by kernel_rfl) (fun R hR => lamOk_nil) (n := 1000) (sel := bmix_sel) (fun v o h => by cases h; rfl) (pre := pre) (F := F) (T := fun x => bmix_T (x.1.2.1) (x.1.2.2.1) (x.1.2.2.2.1) (x.1.2.2.2.2.1) (x.1.2.2.2.2.2.1) (x.1.2.2.2.2.2.2.1) (x.2.1)) (fun x Q => bmix_q x Q) hF

def gmix (v : List UInt64) (a b c d : Nat) (x y : UInt64) : List UInt64 :=
  let v1 := v.set a (v.getD a 0 + (v.getD b 0 + x))
  let v2 := v1.set d (rotl (v1.getD d 0 ^^^ v1.getD a 0) (-32))
  let v3 := v2.set c (v2.getD c 0 + v2.getD d 0)
  let v4 := v3.set b (rotl (v3.getD b 0 ^^^ v3.getD c 0) (-24))
  let v5 := v4.set a (v4.getD a 0 + (v4.getD b 0 + y))
  let v6 := v5.set d (rotl (v5.getD d 0 ^^^ v5.getD a 0) (-16))
  let v7 := v6.set c (v6.getD c 0 + v6.getD d 0)
  v7.set b (rotl (v7.getD b 0 ^^^ v7.getD c 0) (-63))

theorem gmix_length (v : List UInt64) (a b c d : Nat) (x y : UInt64) : (gmix v a b c d x y).length = v.length := by
  simp only [gmix, List.length_set]

def bmix_pre (x : bmixX) : Bool := inB x.1.2.1 16 && inB x.1.2.2.1 16 && inB x.1.2.2.2.1 16 && inB x.1.2.2.2.2.1 16 && decide (x.2.1.length = 16)
def bmix_F (x : bmixX) : OT bmix_S.Y := .ok ⟨bmix_o0, ((), (gmix x.2.1 x.1.2.1.toNat x.1.2.2.1.toNat x.1.2.2.2.1.toNat x.1.2.2.2.2.1.toNat x.1.2.2.2.2.2.1 x.1.2.2.2.2.2.2.1, ()))⟩
theorem bmix_ok : SummOk Try.prog 37 (bmix_S.summ bmix_pre bmix_F) := bmix_main _ _ fun x oy hp ho => by
  rw [← ho]
  obtain ⟨⟨⟨⟩, a, b, c, d, x, y, ⟨⟩⟩, ⟨v, ⟨⟩⟩⟩ := x
  simp only [bmix_pre, Bool.and_eq_true, decide_eq_true_eq] at hp
  obtain ⟨⟨⟨⟨ha, hb⟩, hc⟩, hd⟩, hv⟩ := hp
  have na := inB_lt ha
  have nb := inB_lt hb
  have nc := inB_lt hc
  have nd := inB_lt hd
  refine (gd_run ?_).trans rfl
  simp only [List.length_set, hv, ha, hb, hc, hd, Nat.add_zero, na, nb, nc, nd, decide_true, List.all_cons, List.all_nil, Bool.and_self]

theorem bmix_known : SummOk Try.prog 37 (bmix_S.summ bmix_pre bmix_F) := bmix_ok

def E_bmix : Env := envCons 37 (bmix_S.summ bmix_pre bmix_F) E_bsched
theorem E_bmix_ok : EnvOk Try.prog E_bmix := envOk_cons bmix_known E_bsched_ok
theorem E_bmix_mono : EnvMono E_bmix := envMono_cons fn_mono E_bsched_mono
theorem E_bmix_any : AnyOk Try.prog te E_bmix := any_ok follows te_ok E_bmix_ok E_bmix_mono

end Go.Proofs.Ytkngdfhigpjciaa

/- The function sigil/blake.compress$1: what it makes of its arguments. No statement of a seat is proved here. -/
namespace Go.Proofs.Ytkngdfhigpjciaa
open Sx Go
set_option maxRecDepth 100000

def bat_S : FnSpec := ⟨[.val false .int, .ptr 0 0 0, .ptr 1 0 0], [(0, .row .u64), (1, .cells [.val false .str])], false, 2, true⟩

abbrev batX : Type := ((Int) × (Unit) × (Unit) × Unit) × ((List (UInt64)) × ((List UInt8) × Unit) × Unit)

def bat_o0 : OutSh := ⟨[.val false .u64], [(0, .row .u64), (1, .cells [.val false .str])], false⟩

def bat_sel : SV → Option OutSh := fun _ => some bat_o0

def bat_T (a0 : Int) (c0 : List (UInt64)) (c1_0 : List UInt8) : OT bat_S.Y :=
  let z0 : Int := nib (List.getD c1_0 (Int.toNat a0) (0 : UInt8))
  (gd [inB a0 (List.length c1_0), inB z0 (16 : Nat), decide (Int.toNat z0 + (0 : Nat) < List.length c0)] (.ok ⟨bat_o0, ((List.getD c0 (Int.toNat z0 + (0 : Nat)) (0 : UInt64), ()), (c0, ((c1_0, ()), ())))⟩))

theorem bat_q (x : batX) (Q : bat_S.Y → Prop) : wpf te E_bmix lamNil 1000 Try.f35 (bat_S.inp.inj x).tm (bat_S.inp.inj x).hp (fnK bat_S bat_sel Q) (fun _ _ => False) = (bat_T (x.1.1) (x.2.1) (x.2.2.1.1)).wpR Q := by kernel_rfl

theorem bat_main (pre : batX → Bool) (F : batX → OT bat_S.Y) (hF : ∀ (x : batX) oy, pre x = true → (F x).run = some oy → (bat_T (x.1.1) (x.2.1) (x.2.2.1.1)).run = some oy) : SummOk Try.prog 35 (bat_S.summ pre F) :=
  fn_tree te_ok E_bmix_ok E_bmix_any (f := 35) (fn := Try.f35) (c := codeOf Try.f35) (by kernel_rfl) (by kernel_rfl) (by kernel_rfl) (S := bat_S) (k := 2) (by kernel_rfl) (fun R hR => lamOk_nil) (n := 1000) (sel := bat_sel) (fun v o h => by cases h; rfl) (pre := pre) (F := F) (T := fun x => bat_T (x.1.1) (x.2.1) (x.2.2.1.1)) (fun x Q => bat_q x Q) hF

def atF (m : List UInt64) (row : List UInt8) (i : Int) : UInt64 := m.getD (nib (row.getD i.toNat 0)).toNat 0
def bat_pre (x : batX) : Bool := inB x.1.1 x.2.2.1.1.length && inB (nib (x.2.2.1.1.getD x.1.1.toNat 0)) 16 && decide (x.2.1.length = 16)
def bat_F (x : batX) : OT bat_S.Y := .ok ⟨bat_o0, ((atF x.2.1 x.2.2.1.1 x.1.1, ()), (x.2.1, ((x.2.2.1.1, ()), ())))⟩
theorem bat_ok : SummOk Try.prog 35 (bat_S.summ bat_pre bat_F) := bat_main _ _ fun x oy hp ho => by
  rw [← ho]
  obtain ⟨⟨i, ⟨⟩, ⟨⟩, ⟨⟩⟩, ⟨m, ⟨row, ⟨⟩⟩, ⟨⟩⟩⟩ := x
  simp only [bat_pre, Bool.and_eq_true, decide_eq_true_eq] at hp
  obtain ⟨⟨h1, h2⟩, h3⟩ := hp
  have n2 := inB_lt h2
  refine (gd_run ?_).trans rfl
  simp only [h1, h2, h3, Nat.add_zero, n2, decide_true, List.all_cons, List.all_nil, Bool.and_self]

theorem bat_known : SummOk Try.prog 35 (bat_S.summ bat_pre bat_F) := bat_ok

def E_bat : Env := envCons 35 (bat_S.summ bat_pre bat_F) E_bmix
theorem E_bat_ok : EnvOk Try.prog E_bat := envOk_cons bat_known E_bmix_ok
theorem E_bat_mono : EnvMono E_bat := envMono_cons fn_mono E_bmix_mono
theorem E_bat_any : AnyOk Try.prog te E_bat := any_ok follows te_ok E_bat_ok E_bat_mono

end Go.Proofs.Ytkngdfhigpjciaa

/- The function sigil/blake.compress: what it makes of its arguments. No statement of a seat is proved here. -/
namespace Go.Proofs.Ytkngdfhigpjciaa
open Sx Go
set_option maxRecDepth 100000

def bcomp_S : FnSpec := ⟨[.val true (.arr 8 .u64), .val true (.arr 128 .u8), .val false .u64, .val false .bool], [], true, 0, false⟩

abbrev bcompX : Type := ((List (UInt64)) × (List (UInt8)) × (UInt64) × (Bool) × Unit) × (Unit)

def bcomp_s0 : Shape := ⟨127, [(4, .ptr 0 0 0), (5, .ptr 1 0 0), (8, .ptr 2 0 0), (9, .ptr 3 0 0), (11, .ptr 4 0 0), (37, .val false .int)], [(0, .row .u64), (1, .row .u8), (2, .row .u64), (3, .row .u64), (4, .row .u64)], 0, true⟩

abbrev bcomp_s0X : Type := ((Unit) × (Unit) × (Unit) × (Unit) × (Unit) × (Int) × Unit) × ((List (UInt64)) × (List (UInt8)) × (List (UInt64)) × (List (UInt64)) × (List (UInt64)) × Unit)

def bcomp_e0_0 : Shape := ⟨127, [(4, .ptr 0 0 0), (8, .ptr 1 0 0), (9, .ptr 2 0 0), (11, .ptr 3 0 0)], [(0, .row .u64), (1, .row .u64), (2, .row .u64), (3, .row .u64)], 0, true⟩

abbrev bcomp_e0_0X : Type := ((Unit) × (Unit) × (Unit) × (Unit) × Unit) × ((List (UInt64)) × (List (UInt64)) × (List (UInt64)) × (List (UInt64)) × Unit)

def bcomp_x0 : SE → Option Shape := xsMk [(0, bcomp_e0_0)] none

def bcomp_T0 (a37 : Int) (c0 : List (UInt64)) (c1 : List (UInt8)) (c2 : List (UInt64)) (c3 : List (UInt64)) (c4 : List (UInt64)) : OT (Sum bcomp_s0X LEnd) :=
  let z0 : Bool := inR ((8 : Int) * a37)
  let z1 : List UInt8 := List.take (Int.toNat ((8 : Int) * a37 + (8 : Int) - (8 : Int) * a37)) (List.drop (Int.toNat ((8 : Int) * a37)) c1)
  (.br (decide (a37 < (16 : Int)))
  (gd [z0, z0, inR ((8 : Int) * a37 + (8 : Int)), decide ((128 : Nat) ≤ List.length c1) && between ((8 : Int) * a37) ((8 : Int) * a37 + (8 : Int)) (128 : Nat), bword_pre ((z1, ()), ()), inB a37 (16 : Nat), decide (Int.toNat a37 + (0 : Nat) < List.length c4), inR (a37 + (1 : Int))] (.ok (.inl (((), ((), ((), ((), ((), (a37 + (1 : Int), ())))))), (c0, (c1, (c2, (c3, (List.set c4 (Int.toNat a37 + (0 : Nat)) (wordK z1 (List.length z1)), ())))))))))
  (.ok (.inr ⟨(.exit 0, bcomp_e0_0), (((), ((), ((), ((), ())))), (c0, (c2, (c3, (c4, ())))))⟩)))

def bcomp_U0 (s : bcomp_s0X) : OT (Sum bcomp_s0X LEnd) := bcomp_T0 (s.1.2.2.2.2.2.1) (s.2.1) (s.2.2.1) (s.2.2.2.1) (s.2.2.2.2.1) (s.2.2.2.2.2.1)

theorem bcomp_q0 (s : bcomp_s0X) (Q : Sum bcomp_s0X LEnd → Prop) : wps te E_bat lamNil 1000 (loopOf (codeOf Try.f25) 0) (bcomp_s0.inj s) (stepK bcomp_s0 bcomp_x0 (Q : Sum bcomp_s0.T LEnd → Prop)) = (bcomp_U0 s).wpR Q := by kernel_rfl

def bcomp_f0 (g0_0 : bcomp_s0X → bcomp_e0_0X) (s : bcomp_s0X) : OT LEnd := (.ok ⟨(.exit 0, bcomp_e0_0), g0_0 s⟩)

def bcomp_s2 : Shape := ⟨127, [(4, .ptr 0 0 0), (8, .ptr 1 0 0), (9, .ptr 2 0 0), (11, .ptr 3 0 0), (13, .ptr 4 0 0), (51, .val false .int)], [(0, .row .u64), (1, .row .u64), (2, .row .u64), (3, .row .u64), (4, .row .str)], 0, true⟩

abbrev bcomp_s2X : Type := ((Unit) × (Unit) × (Unit) × (Unit) × (Unit) × (Int) × Unit) × ((List (UInt64)) × (List (UInt64)) × (List (UInt64)) × (List (UInt64)) × (List (List UInt8)) × Unit)

def bcomp_s4 : Shape := ⟨127, [(4, .ptr 0 0 0), (8, .ptr 1 0 0), (9, .ptr 2 0 0), (11, .ptr 3 0 0), (13, .ptr 4 0 0), (16, .fn 35 [3, 5]), (51, .val false .int), (59, .val false .int)], [(0, .row .u64), (1, .row .u64), (2, .row .u64), (3, .row .u64), (4, .row .str), (5, .cells [.val false .str])], 0, true⟩

abbrev bcomp_s4X : Type := ((Unit) × (Unit) × (Unit) × (Unit) × (Unit) × (Unit) × (Int) × (Int) × Unit) × ((List (UInt64)) × (List (UInt64)) × (List (UInt64)) × (List (UInt64)) × (List (List UInt8)) × ((List UInt8) × Unit) × Unit)

def bcomp_e4_4 : Shape := ⟨127, [(4, .ptr 0 0 0), (8, .ptr 1 0 0), (9, .ptr 2 0 0), (11, .ptr 3 0 0), (13, .ptr 4 0 0), (16, .fn 35 [3, 5]), (51, .val false .int)], [(0, .row .u64), (1, .row .u64), (2, .row .u64), (3, .row .u64), (4, .row .str), (5, .cells [.val false .str])], 0, true⟩

abbrev bcomp_e4_4X : Type := ((Unit) × (Unit) × (Unit) × (Unit) × (Unit) × (Unit) × (Int) × Unit) × ((List (UInt64)) × (List (UInt64)) × (List (UInt64)) × (List (UInt64)) × (List (List UInt8)) × ((List UInt8) × Unit) × Unit)

def bcomp_x4 : SE → Option Shape := xsMk [(4, bcomp_e4_4)] none

def bcomp_T4 (a51 : Int) (a59 : Int) (c0 : List (UInt64)) (c1 : List (UInt64)) (c2 : List (UInt64)) (c3 : List (UInt64)) (c4 : List (List UInt8)) (c5_0 : List UInt8) : OT (Sum bcomp_s4X LEnd) :=
  let z0 : Bool := inR ((2 : Int) * a59)
  let z1 : PUnit × PUnit × PUnit := ((), (), ())
  let z2 : List UInt64 × (List UInt8 × PUnit) × PUnit := (c3, (c5_0, ()), ())
  let z3 : UInt64 := atF c3 c5_0 ((2 : Int) * a59)
  let z4 : UInt64 := atF c3 c5_0 ((2 : Int) * a59 + (1 : Int))
  (.br (decide (a59 < (4 : Int)))
  (gd [inR ((4 : Int) + a59), inR ((8 : Int) + a59), inR ((12 : Int) + a59), z0, bat_pre (((2 : Int) * a59, z1), z2), z0, inR ((2 : Int) * a59 + (1 : Int)), bat_pre (((2 : Int) * a59 + (1 : Int), z1), z2), bmix_pre (((), a59, (4 : Int) + a59, (8 : Int) + a59, (12 : Int) + a59, z3, z4, ()), c2, ()), inR (a59 + (1 : Int))] (.ok (.inl (((), ((), ((), ((), ((), ((), (a51, (a59 + (1 : Int), ())))))))), (c0, (c1, (gmix c2 (Int.toNat a59) (Int.toNat ((4 : Int) + a59)) (Int.toNat ((8 : Int) + a59)) (Int.toNat ((12 : Int) + a59)) z3 z4, (c3, (c4, ((c5_0, ()), ()))))))))))
  (.ok (.inr ⟨(.exit 4, bcomp_e4_4), (((), ((), ((), ((), ((), ((), (a51, ()))))))), (c0, (c1, (c2, (c3, (c4, ((c5_0, ()), ())))))))⟩)))

def bcomp_U4 (s : bcomp_s4X) : OT (Sum bcomp_s4X LEnd) := bcomp_T4 (s.1.2.2.2.2.2.2.1) (s.1.2.2.2.2.2.2.2.1) (s.2.1) (s.2.2.1) (s.2.2.2.1) (s.2.2.2.2.1) (s.2.2.2.2.2.1) (s.2.2.2.2.2.2.1.1)

theorem bcomp_q4 (s : bcomp_s4X) (Q : Sum bcomp_s4X LEnd → Prop) : wps te E_bat lamNil 1000 (loopOf (loopOf (codeOf Try.f25) 2) 4) (bcomp_s4.inj s) (stepK bcomp_s4 bcomp_x4 (Q : Sum bcomp_s4.T LEnd → Prop)) = (bcomp_U4 s).wpR Q := by kernel_rfl

def bcomp_f4 (g4_4 : bcomp_s4X → bcomp_e4_4X) (s : bcomp_s4X) : OT LEnd := (.ok ⟨(.exit 4, bcomp_e4_4), g4_4 s⟩)

def bcomp_s6 : Shape := ⟨127, [(4, .ptr 0 0 0), (8, .ptr 1 0 0), (9, .ptr 2 0 0), (11, .ptr 3 0 0), (13, .ptr 4 0 0), (16, .fn 35 [3, 5]), (51, .val false .int), (80, .val false .int)], [(0, .row .u64), (1, .row .u64), (2, .row .u64), (3, .row .u64), (4, .row .str), (5, .cells [.val false .str])], 0, true⟩

abbrev bcomp_s6X : Type := ((Unit) × (Unit) × (Unit) × (Unit) × (Unit) × (Unit) × (Int) × (Int) × Unit) × ((List (UInt64)) × (List (UInt64)) × (List (UInt64)) × (List (UInt64)) × (List (List UInt8)) × ((List UInt8) × Unit) × Unit)

def bcomp_e6_6 : Shape := ⟨127, [(4, .ptr 0 0 0), (8, .ptr 1 0 0), (9, .ptr 2 0 0), (11, .ptr 3 0 0), (13, .ptr 4 0 0), (51, .val false .int)], [(0, .row .u64), (1, .row .u64), (2, .row .u64), (3, .row .u64), (4, .row .str)], 0, true⟩

abbrev bcomp_e6_6X : Type := ((Unit) × (Unit) × (Unit) × (Unit) × (Unit) × (Int) × Unit) × ((List (UInt64)) × (List (UInt64)) × (List (UInt64)) × (List (UInt64)) × (List (List UInt8)) × Unit)

def bcomp_x6 : SE → Option Shape := xsMk [(6, bcomp_e6_6)] none

def bcomp_T6 (a51 : Int) (a80 : Int) (c0 : List (UInt64)) (c1 : List (UInt64)) (c2 : List (UInt64)) (c3 : List (UInt64)) (c4 : List (List UInt8)) (c5_0 : List UInt8) : OT (Sum bcomp_s6X LEnd) :=
  let z0 : Bool := inR (a80 + (1 : Int))
  let z1 : Int := (4 : Int) + Int.tmod (a80 + (1 : Int)) (4 : Int)
  let z2 : Int := (8 : Int) + Int.tmod (a80 + (2 : Int)) (4 : Int)
  let z3 : Int := (12 : Int) + Int.tmod (a80 + (3 : Int)) (4 : Int)
  let z4 : Bool := inR ((2 : Int) * a80)
  let z5 : PUnit × PUnit × PUnit := ((), (), ())
  let z6 : List UInt64 × (List UInt8 × PUnit) × PUnit := (c3, (c5_0, ()), ())
  let z7 : UInt64 := atF c3 c5_0 ((8 : Int) + (2 : Int) * a80)
  let z8 : UInt64 := atF c3 c5_0 ((9 : Int) + (2 : Int) * a80)
  (.br (decide (a80 < (4 : Int)))
  (gd [z0, inR z1, inR (a80 + (2 : Int)), inR z2, inR (a80 + (3 : Int)), inR z3, z4, inR ((8 : Int) + (2 : Int) * a80), bat_pre (((8 : Int) + (2 : Int) * a80, z5), z6), z4, inR ((9 : Int) + (2 : Int) * a80), bat_pre (((9 : Int) + (2 : Int) * a80, z5), z6), bmix_pre (((), a80, z1, z2, z3, z7, z8, ()), c2, ()), z0] (.ok (.inl (((), ((), ((), ((), ((), ((), (a51, (a80 + (1 : Int), ())))))))), (c0, (c1, (gmix c2 (Int.toNat a80) (Int.toNat z1) (Int.toNat z2) (Int.toNat z3) z7 z8, (c3, (c4, ((c5_0, ()), ()))))))))))
  (.ok (.inr ⟨(.exit 6, bcomp_e6_6), (((), ((), ((), ((), ((), (a51, ())))))), (c0, (c1, (c2, (c3, (c4, ()))))))⟩)))

def bcomp_U6 (s : bcomp_s6X) : OT (Sum bcomp_s6X LEnd) := bcomp_T6 (s.1.2.2.2.2.2.2.1) (s.1.2.2.2.2.2.2.2.1) (s.2.1) (s.2.2.1) (s.2.2.2.1) (s.2.2.2.2.1) (s.2.2.2.2.2.1) (s.2.2.2.2.2.2.1.1)

theorem bcomp_q6 (s : bcomp_s6X) (Q : Sum bcomp_s6X LEnd → Prop) : wps te E_bat lamNil 1000 (loopOf (loopOf (codeOf Try.f25) 2) 6) (bcomp_s6.inj s) (stepK bcomp_s6 bcomp_x6 (Q : Sum bcomp_s6.T LEnd → Prop)) = (bcomp_U6 s).wpR Q := by kernel_rfl

def bcomp_f6 (g6_6 : bcomp_s6X → bcomp_e6_6X) (s : bcomp_s6X) : OT LEnd := (.ok ⟨(.exit 6, bcomp_e6_6), g6_6 s⟩)

def bcomp_e2_2 : Shape := ⟨127, [(4, .ptr 0 0 0), (8, .ptr 1 0 0), (9, .ptr 2 0 0)], [(0, .row .u64), (1, .row .u64), (2, .row .u64)], 0, true⟩

abbrev bcomp_e2_2X : Type := ((Unit) × (Unit) × (Unit) × Unit) × ((List (UInt64)) × (List (UInt64)) × (List (UInt64)) × Unit)

def bcomp_x2 : SE → Option Shape := xsMk [(2, bcomp_e2_2)] none

def bcomp_T2 (ok4 : bcomp_s4X → Bool) (g4_4 : bcomp_s4X → bcomp_e4_4X) (ok6 : bcomp_s6X → Bool) (g6_6 : bcomp_s6X → bcomp_e6_6X) (a51 : Int) (c0 : List (UInt64)) (c1 : List (UInt64)) (c2 : List (UInt64)) (c3 : List (UInt64)) (c4 : List (List UInt8)) : OT (Sum bcomp_s2X LEnd) :=
  let z0 : Int := Int.tmod a51 (10 : Int)
  let z1 : (PUnit × PUnit × PUnit × PUnit × PUnit × PUnit × Int × Int × PUnit) × List UInt64 × List UInt64 × List UInt64 × List UInt64 × List (List UInt8) × (List UInt8 × PUnit) × PUnit := (((), (), (), (), (), (), a51, (0 : Int), ()), c0, c1, c2, c3, c4, (List.getD c4 (Int.toNat z0 + (0 : Nat)) [], ()), ())
  let z2 : (PUnit × PUnit × PUnit × PUnit × PUnit × PUnit × Int × PUnit) × List UInt64 × List UInt64 × List UInt64 × List UInt64 × List (List UInt8) × (List UInt8 × PUnit) × PUnit := g4_4 z1
  let z3 : List UInt64 × List UInt64 × List UInt64 × List UInt64 × List (List UInt8) × (List UInt8 × PUnit) × PUnit := z2.snd
  let z4 : List UInt64 × List UInt64 × List UInt64 × List (List UInt8) × (List UInt8 × PUnit) × PUnit := z3.snd
  let z5 : List UInt64 × List UInt64 × List (List UInt8) × (List UInt8 × PUnit) × PUnit := z4.snd
  let z6 : List UInt64 × List (List UInt8) × (List UInt8 × PUnit) × PUnit := z5.snd
  let z7 : List (List UInt8) × (List UInt8 × PUnit) × PUnit := z6.snd
  let z8 : (PUnit × PUnit × PUnit × PUnit × PUnit × PUnit × Int × Int × PUnit) × List UInt64 × List UInt64 × List UInt64 × List UInt64 × List (List UInt8) × (List UInt8 × PUnit) × PUnit := (((), (), (), (), (), (), z2.fst.snd.snd.snd.snd.snd.snd.fst, (0 : Int), ()), z3.fst, z4.fst, z5.fst, z6.fst, z7.fst, (z7.snd.fst.fst, ()), ())
  let z9 : (PUnit × PUnit × PUnit × PUnit × PUnit × Int × PUnit) × List UInt64 × List UInt64 × List UInt64 × List UInt64 × List (List UInt8) × PUnit := g6_6 z8
  let z10 : List UInt64 × List UInt64 × List UInt64 × List UInt64 × List (List UInt8) × PUnit := z9.snd
  let z11 : List UInt64 × List UInt64 × List UInt64 × List (List UInt8) × PUnit := z10.snd
  let z12 : List UInt64 × List UInt64 × List (List UInt8) × PUnit := z11.snd
  let z13 : List UInt64 × List (List UInt8) × PUnit := z12.snd
  (.br (decide (a51 < (12 : Int)))
  (gd [inB z0 (10 : Nat), decide (Int.toNat z0 + (0 : Nat) < List.length c4), ok4 z1, ok6 z8, inR (z9.fst.snd.snd.snd.snd.snd.fst + (1 : Int))] (.ok (.inl (((), ((), ((), ((), ((), (z9.fst.snd.snd.snd.snd.snd.fst + (1 : Int), ())))))), (z10.fst, (z11.fst, (z12.fst, (z13.fst, (z13.snd.fst, ())))))))))
  (.ok (.inr ⟨(.exit 2, bcomp_e2_2), (((), ((), ((), ()))), (c0, (c1, (c2, ()))))⟩)))

def bcomp_U2 (ok4 : bcomp_s4X → Bool) (g4_4 : bcomp_s4X → bcomp_e4_4X) (ok6 : bcomp_s6X → Bool) (g6_6 : bcomp_s6X → bcomp_e6_6X) (s : bcomp_s2X) : OT (Sum bcomp_s2X LEnd) := bcomp_T2 ok4 g4_4 ok6 g6_6 (s.1.2.2.2.2.2.1) (s.2.1) (s.2.2.1) (s.2.2.2.1) (s.2.2.2.2.1) (s.2.2.2.2.2.1)

theorem bcomp_q2 (ok4 : bcomp_s4X → Bool) (g4_4 : bcomp_s4X → bcomp_e4_4X) (ok6 : bcomp_s6X → Bool) (g6_6 : bcomp_s6X → bcomp_e6_6X) (s : bcomp_s2X) (Q : Sum bcomp_s2X LEnd → Prop) : wps te E_bat (lamCons 6 (loopF bcomp_s6 6 ok6 (bcomp_f6 g6_6)) (lamCons 4 (loopF bcomp_s4 4 ok4 (bcomp_f4 g4_4)) lamNil)) 1000 (loopOf (codeOf Try.f25) 2) (bcomp_s2.inj s) (stepK bcomp_s2 bcomp_x2 (Q : Sum bcomp_s2.T LEnd → Prop)) = (bcomp_U2 ok4 g4_4 ok6 g6_6 s).wpR Q := by kernel_rfl

def bcomp_f2 (g2_2 : bcomp_s2X → bcomp_e2_2X) (s : bcomp_s2X) : OT LEnd := (.ok ⟨(.exit 2, bcomp_e2_2), g2_2 s⟩)

def bcomp_s8 : Shape := ⟨127, [(4, .ptr 0 0 0), (8, .ptr 1 0 0), (9, .ptr 2 0 0), (109, .val false .int)], [(0, .row .u64), (1, .row .u64), (2, .row .u64)], 0, true⟩

abbrev bcomp_s8X : Type := ((Unit) × (Unit) × (Unit) × (Int) × Unit) × ((List (UInt64)) × (List (UInt64)) × (List (UInt64)) × Unit)

def bcomp_e8_8 : Shape := ⟨127, [(4, .ptr 0 0 0), (8, .ptr 1 0 0)], [(0, .row .u64), (1, .row .u64)], 0, true⟩

abbrev bcomp_e8_8X : Type := ((Unit) × (Unit) × Unit) × ((List (UInt64)) × (List (UInt64)) × Unit)

def bcomp_x8 : SE → Option Shape := xsMk [(8, bcomp_e8_8)] none

def bcomp_T8 (a109 : Int) (c0 : List (UInt64)) (c1 : List (UInt64)) (c2 : List (UInt64)) : OT (Sum bcomp_s8X LEnd) :=
  let z0 : Bool := inB a109 (8 : Nat)
  let z1 : Bool := decide (Int.toNat a109 + (0 : Nat) < List.length c0)
  let z2 : Nat := List.length c2
  (.br (decide (a109 < (8 : Int)))
  (gd [z0, z1, inB a109 (16 : Nat), decide (Int.toNat a109 + (0 : Nat) < z2), inR (a109 + (8 : Int)), inB (a109 + (8 : Int)) (16 : Nat), decide (Int.toNat (a109 + (8 : Int)) + (0 : Nat) < z2), z0, z1, inR (a109 + (1 : Int))] (.ok (.inl (((), ((), ((), (a109 + (1 : Int), ())))), (List.set c0 (Int.toNat a109 + (0 : Nat)) (List.getD c0 (Int.toNat a109 + (0 : Nat)) (0 : UInt64) ^^^ (List.getD c2 (Int.toNat a109 + (0 : Nat)) (0 : UInt64) ^^^ List.getD c2 (Int.toNat (a109 + (8 : Int)) + (0 : Nat)) (0 : UInt64))), (c1, (c2, ())))))))
  (.ok (.inr ⟨(.exit 8, bcomp_e8_8), (((), ((), ())), (c0, (c1, ())))⟩)))

def bcomp_U8 (s : bcomp_s8X) : OT (Sum bcomp_s8X LEnd) := bcomp_T8 (s.1.2.2.2.1) (s.2.1) (s.2.2.1) (s.2.2.2.1)

theorem bcomp_q8 (s : bcomp_s8X) (Q : Sum bcomp_s8X LEnd → Prop) : wps te E_bat lamNil 1000 (loopOf (codeOf Try.f25) 8) (bcomp_s8.inj s) (stepK bcomp_s8 bcomp_x8 (Q : Sum bcomp_s8.T LEnd → Prop)) = (bcomp_U8 s).wpR Q := by kernel_rfl

def bcomp_f8 (g8_8 : bcomp_s8X → bcomp_e8_8X) (s : bcomp_s8X) : OT LEnd := (.ok ⟨(.exit 8, bcomp_e8_8), g8_8 s⟩)

def bcomp_o0 : OutSh := ⟨[.val true (.arr 8 .u64)], [], false⟩

def bcomp_sel : SV → Option OutSh := fun _ => some bcomp_o0

def bcomp_T (ok0 : bcomp_s0X → Bool) (g0_0 : bcomp_s0X → bcomp_e0_0X) (ok4 : bcomp_s4X → Bool) (g4_4 : bcomp_s4X → bcomp_e4_4X) (ok6 : bcomp_s6X → Bool) (g6_6 : bcomp_s6X → bcomp_e6_6X) (ok2 : bcomp_s2X → Bool) (g2_2 : bcomp_s2X → bcomp_e2_2X) (ok8 : bcomp_s8X → Bool) (g8_8 : bcomp_s8X → bcomp_e8_8X) (a0 : List (UInt64)) (a1 : List (UInt8)) (a2 : UInt64) (a3 : Bool) : OT bcomp_S.Y :=
  let z0 : PUnit × PUnit × PUnit × PUnit × PUnit × Int × PUnit := ((), (), (), (), (), (0 : Int), ())
  let z1 : List UInt64 := tab a0 (8 : Nat) (0 : UInt64)
  let z2 : List UInt8 := tab a1 (128 : Nat) (0 : UInt8)
  let z3 : List UInt64 := [] ++ (List.take (8 : Nat) z1 ++ List.drop ((0 : Nat) + min (List.length z1) (8 : Nat)) [(0 : UInt64), (0 : UInt64), (0 : UInt64), (0 : UInt64), (0 : UInt64), (0 : UInt64), (0 : UInt64), (0 : UInt64), (0 : UInt64), (0 : UInt64), (0 : UInt64), (0 : UInt64), (0 : UInt64), (0 : UInt64), (0 : UInt64), (0 : UInt64)])
  let z4 : List UInt64 := List.take (8 : Nat) z3 ++ ([(7640891576956012808 : UInt64), (13503953896175478587 : UInt64), (4354685564936845355 : UInt64), (11912009170470909681 : UInt64), (5840696475078001361 : UInt64), (11170449401992604703 : UInt64), (2270897969802886507 : UInt64), (6620516959819538809 : UInt64)] ++ List.drop (16 : Nat) z3)
  let z5 : List UInt64 := List.set z4 (12 : Nat) (List.getD z4 (12 : Nat) (0 : UInt64) ^^^ a2)
  let z6 : List UInt64 × PUnit := ([(0 : UInt64), (0 : UInt64), (0 : UInt64), (0 : UInt64), (0 : UInt64), (0 : UInt64), (0 : UInt64), (0 : UInt64), (0 : UInt64), (0 : UInt64), (0 : UInt64), (0 : UInt64), (0 : UInt64), (0 : UInt64), (0 : UInt64), (0 : UInt64)], ())
  let z7 : (PUnit × PUnit × PUnit × PUnit × PUnit × Int × PUnit) × List UInt64 × List UInt8 × List UInt64 × List UInt64 × List UInt64 × PUnit := (z0, z1, z2, [(0 : UInt64), (0 : UInt64), (0 : UInt64), (0 : UInt64), (0 : UInt64), (0 : UInt64), (0 : UInt64), (0 : UInt64)], List.set z5 (14 : Nat) (~~~List.getD z5 (14 : Nat) (0 : UInt64)), z6)
  let z8 : PUnit × PUnit × PUnit × PUnit × PUnit × Int × PUnit := ((), (), (), (), (), (0 : Int), ())
  let z9 : List UInt64 × List UInt64 × List UInt64 × List UInt64 × PUnit := (g0_0 z7).snd
  let z10 : List UInt64 × List UInt64 × List UInt64 × PUnit := z9.snd
  let z11 : List UInt64 × List UInt64 × PUnit := z10.snd
  let z12 : List (List UInt8) × PUnit := ([List.getD bSched (0 : Nat) [], List.getD bSched (1 : Nat) [], List.getD bSched (2 : Nat) [], List.getD bSched (3 : Nat) [], List.getD bSched (4 : Nat) [], List.getD bSched (5 : Nat) [], List.getD bSched (6 : Nat) [], List.getD bSched (7 : Nat) [], List.getD bSched (8 : Nat) [], List.getD bSched (9 : Nat) []], ())
  let z13 : (PUnit × PUnit × PUnit × PUnit × PUnit × Int × PUnit) × List UInt64 × List UInt64 × List UInt64 × List UInt64 × List (List UInt8) × PUnit := (z8, z9.fst, z10.fst, z11.fst, z11.snd.fst, z12)
  let z14 : PUnit × PUnit × PUnit × Int × PUnit := ((), (), (), (0 : Int), ())
  let z15 : List UInt64 × List UInt64 × List UInt64 × PUnit := (g2_2 z13).snd
  let z16 : List UInt64 × List UInt64 × PUnit := z15.snd
  let z17 : (PUnit × PUnit × PUnit × Int × PUnit) × List UInt64 × List UInt64 × List UInt64 × PUnit := (z14, z15.fst, z16.fst, z16.snd.fst, ())
  let z18 : List UInt64 × List UInt64 × PUnit := (g8_8 z17).snd
  let z19 : List UInt64 := z18.fst
  let z20 : List UInt64 := z18.snd.fst
  let z21 : List UInt64 := lay z20 z19 (8 : Nat) (0 : UInt64)
  let z22 : (PUnit × PUnit × PUnit × PUnit × PUnit × Int × PUnit) × List UInt64 × List UInt8 × List UInt64 × List UInt64 × List UInt64 × PUnit := (z0, z1, z2, [(0 : UInt64), (0 : UInt64), (0 : UInt64), (0 : UInt64), (0 : UInt64), (0 : UInt64), (0 : UInt64), (0 : UInt64)], z5, z6)
  let z23 : List UInt64 × List UInt64 × List UInt64 × List UInt64 × PUnit := (g0_0 z22).snd
  let z24 : List UInt64 × List UInt64 × List UInt64 × PUnit := z23.snd
  let z25 : List UInt64 × List UInt64 × PUnit := z24.snd
  let z26 : (PUnit × PUnit × PUnit × PUnit × PUnit × Int × PUnit) × List UInt64 × List UInt64 × List UInt64 × List UInt64 × List (List UInt8) × PUnit := (z8, z23.fst, z24.fst, z25.fst, z25.snd.fst, z12)
  let z27 : List UInt64 × List UInt64 × List UInt64 × PUnit := (g2_2 z26).snd
  let z28 : List UInt64 × List UInt64 × PUnit := z27.snd
  let z29 : (PUnit × PUnit × PUnit × Int × PUnit) × List UInt64 × List UInt64 × List UInt64 × PUnit := (z14, z27.fst, z28.fst, z28.snd.fst, ())
  let z30 : List UInt64 × List UInt64 × PUnit := (g8_8 z29).snd
  let z31 : List UInt64 := z30.fst
  let z32 : List UInt64 := z30.snd.fst
  let z33 : List UInt64 := lay z32 z31 (8 : Nat) (0 : UInt64)
  (.br (a3)
  (gd [ok0 z7, ok2 z13, ok8 z17, decide ((8 : Nat) ≤ List.length z19), decide ((8 / 1 : Nat) + (0 : Nat) ≤ List.length z20), decide ((8 : Nat) ≤ List.length z21)] (.ok ⟨bcomp_o0, ((tab z21 (8 : Nat) (0 : UInt64), ()), ())⟩))
  (gd [ok0 z22, ok2 z26, ok8 z29, decide ((8 : Nat) ≤ List.length z31), decide ((8 / 1 : Nat) + (0 : Nat) ≤ List.length z32), decide ((8 : Nat) ≤ List.length z33)] (.ok ⟨bcomp_o0, ((tab z33 (8 : Nat) (0 : UInt64), ()), ())⟩)))

theorem bcomp_q (ok0 : bcomp_s0X → Bool) (g0_0 : bcomp_s0X → bcomp_e0_0X) (ok4 : bcomp_s4X → Bool) (g4_4 : bcomp_s4X → bcomp_e4_4X) (ok6 : bcomp_s6X → Bool) (g6_6 : bcomp_s6X → bcomp_e6_6X) (ok2 : bcomp_s2X → Bool) (g2_2 : bcomp_s2X → bcomp_e2_2X) (ok8 : bcomp_s8X → Bool) (g8_8 : bcomp_s8X → bcomp_e8_8X) (x : bcompX) (Q : bcomp_S.Y → Prop) : wpf te E_bat (lamCons 8 (loopF bcomp_s8 8 ok8 (bcomp_f8 g8_8)) (lamCons 2 (loopF bcomp_s2 2 ok2 (bcomp_f2 g2_2)) (lamCons 0 (loopF bcomp_s0 0 ok0 (bcomp_f0 g0_0)) lamNil))) 1000 Try.f25 (bcomp_S.inp.inj x).tm (bcomp_S.inp.inj x).hp (fnK bcomp_S bcomp_sel Q) (fun _ _ => False) = (bcomp_T ok0 g0_0 ok4 g4_4 ok6 g6_6 ok2 g2_2 ok8 g8_8 (x.1.1) (x.1.2.1) (x.1.2.2.1) (x.1.2.2.2.1)).wpR Q := by kernel_rfl

theorem bcomp_main (ok0 : bcomp_s0X → Bool) (g0_0 : bcomp_s0X → bcomp_e0_0X) (ok4 : bcomp_s4X → Bool) (g4_4 : bcomp_s4X → bcomp_e4_4X) (ok6 : bcomp_s6X → Bool) (g6_6 : bcomp_s6X → bcomp_e6_6X) (ok2 : bcomp_s2X → Bool) (g2_2 : bcomp_s2X → bcomp_e2_2X) (ok8 : bcomp_s8X → Bool) (g8_8 : bcomp_s8X → bcomp_e8_8X) (h0 : ∀ s : bcomp_s0X, ok0 s = true → ∃ m e, loopRun (bcomp_U0) m s = some e ∧ (bcomp_f0 g0_0 s).run = some e) (h4 : ∀ s : bcomp_s4X, ok4 s = true → ∃ m e, loopRun (bcomp_U4) m s = some e ∧ (bcomp_f4 g4_4 s).run = some e) (h6 : ∀ s : bcomp_s6X, ok6 s = true → ∃ m e, loopRun (bcomp_U6) m s = some e ∧ (bcomp_f6 g6_6 s).run = some e) (h2 : ∀ s : bcomp_s2X, ok2 s = true → ∃ m e, loopRun (bcomp_U2 ok4 g4_4 ok6 g6_6) m s = some e ∧ (bcomp_f2 g2_2 s).run = some e) (h8 : ∀ s : bcomp_s8X, ok8 s = true → ∃ m e, loopRun (bcomp_U8) m s = some e ∧ (bcomp_f8 g8_8 s).run = some e) (pre : bcompX → Bool) (F : bcompX → OT bcomp_S.Y) (hF : ∀ (x : bcompX) oy, pre x = true → (F x).run = some oy → (bcomp_T ok0 g0_0 ok4 g4_4 ok6 g6_6 ok2 g2_2 ok8 g8_8 (x.1.1) (x.1.2.1) (x.1.2.2.1) (x.1.2.2.2.1)).run = some oy) : SummOk Try.prog 25 (bcomp_S.summ pre F) :=
  fn_tree te_ok E_bat_ok E_bat_any (f := 25) (fn := Try.f25) (c := codeOf Try.f25) (by kernel_rfl) (by kernel_rfl) (by kernel_rfl) (S := bcomp_S) (k := 0) (by kernel_rfl) (fun R hR => (lamOk_cons (c := (codeOf Try.f25)) (by kernel_rfl) (id := 8) (by kernel_rfl) (loop_ok te_ok E_bat_ok E_bat_any (sh := bcomp_s8) hR (xs := bcomp_x8) (xsMk_small (by kernel_rfl) (by kernel_rfl) hR) xsMk_pan lamOk_nil (n := 1000) (T := bcomp_U8) (fun s Q => bcomp_q8 s Q) (ok := ok8) (f := bcomp_f8 g8_8) h8) (lamOk_cons (c := (codeOf Try.f25)) (by kernel_rfl) (id := 2) (by kernel_rfl) (loop_ok te_ok E_bat_ok E_bat_any (sh := bcomp_s2) hR (xs := bcomp_x2) (xsMk_small (by kernel_rfl) (by kernel_rfl) hR) xsMk_pan (lamOk_cons (c := (loopOf (codeOf Try.f25) 2)) (by kernel_rfl) (id := 6) (by kernel_rfl) (loop_ok te_ok E_bat_ok E_bat_any (sh := bcomp_s6) hR (xs := bcomp_x6) (xsMk_small (by kernel_rfl) (by kernel_rfl) hR) xsMk_pan lamOk_nil (n := 1000) (T := bcomp_U6) (fun s Q => bcomp_q6 s Q) (ok := ok6) (f := bcomp_f6 g6_6) h6) (lamOk_cons (c := (loopOf (codeOf Try.f25) 2)) (by kernel_rfl) (id := 4) (by kernel_rfl) (loop_ok te_ok E_bat_ok E_bat_any (sh := bcomp_s4) hR (xs := bcomp_x4) (xsMk_small (by kernel_rfl) (by kernel_rfl) hR) xsMk_pan lamOk_nil (n := 1000) (T := bcomp_U4) (fun s Q => bcomp_q4 s Q) (ok := ok4) (f := bcomp_f4 g4_4) h4) lamOk_nil)) (n := 1000) (T := bcomp_U2 ok4 g4_4 ok6 g6_6) (fun s Q => bcomp_q2 ok4 g4_4 ok6 g6_6 s Q) (ok := ok2) (f := bcomp_f2 g2_2) h2) (lamOk_cons (c := (codeOf Try.f25)) (by kernel_rfl) (id := 0) (by kernel_rfl) (loop_ok te_ok E_bat_ok E_bat_any (sh := bcomp_s0) hR (xs := bcomp_x0) (xsMk_small (by kernel_rfl) (by kernel_rfl) hR) xsMk_pan lamOk_nil (n := 1000) (T := bcomp_U0) (fun s Q => bcomp_q0 s Q) (ok := ok0) (f := bcomp_f0 g0_0) h0) lamOk_nil)))) (n := 1000) (sel := bcomp_sel) (fun v o h => by cases h; rfl) (pre := pre) (F := F) (T := fun x => bcomp_T ok0 g0_0 ok4 g4_4 ok6 g6_6 ok2 g2_2 ok8 g8_8 (x.1.1) (x.1.2.1) (x.1.2.2.1) (x.1.2.2.2.1)) (fun x Q => bcomp_q ok0 g0_0 ok4 g4_4 ok6 g6_6 ok2 g2_2 ok8 g8_8 x Q) hF

/-- The words of a block. -/
def wordAt (b : List UInt8) (i : Nat) : UInt64 := wordK ((b.drop (8 * i)).take 8) 8
def wordsOf (b : List UInt8) : List UInt64 := upto (fun k m => m.set k (wordAt b k)) (List.replicate 16 0) 16

def rowOk (row : List UInt8) : Bool := decide (row.length = 16) && (List.range 16).all fun i => inB (nib (row.getD i 0)) 16

theorem rowOk_get {row : List UInt8} (h : rowOk row = true) {i : Nat} (hi : i < 16) : inB (nib (row.getD i 0)) 16 = true := by
  simp only [rowOk, Bool.and_eq_true, List.all_eq_true] at h
  exact h.2 i (by simpa using hi)

theorem bat_pre_of {m : List UInt64} {row : List UInt8} (hm : m.length = 16) (hr : rowOk row = true) {i : Int} (h0 : 0 ≤ i) (h1 : i < 16) (u : Unit × Unit × Unit) (u2 : Unit) (u3 : Unit) : bat_pre ((i, u), (m, ((row, u2), u3))) = true := by
  have hl : row.length = 16 := by
    simp only [rowOk, Bool.and_eq_true, decide_eq_true_eq] at hr
    exact hr.1
  have := rowOk_get hr (i := i.toNat) (by omega)
  simp only [bat_pre, Bool.and_eq_true, decide_eq_true_eq]
  exact ⟨⟨inB_of (by omega), this⟩, hm⟩

theorem bmix_pre_of {v : List UInt64} (hv : v.length = 16) {a b c d : Int} (ha : 0 ≤ a ∧ a < 16) (hb : 0 ≤ b ∧ b < 16) (hc : 0 ≤ c ∧ c < 16) (hd : 0 ≤ d ∧ d < 16) (x y : UInt64) (u1 u2 u3 : Unit) : bmix_pre ((u1, a, b, c, d, x, y, u2), (v, u3)) = true := by
  simp only [bmix_pre, Bool.and_eq_true, decide_eq_true_eq]
  exact ⟨⟨⟨⟨inB_of ha, inB_of hb⟩, inB_of hc⟩, inB_of hd⟩, hv⟩

def bcomp_ok0 (s : bcomp_s0X) : Bool := decide (s.1.2.2.2.2.2.1 = 0 ∧ s.2.2.1.length = 128 ∧ s.2.2.2.2.2.1 = List.replicate 16 0)
def bcomp_g0 (s : bcomp_s0X) : bcomp_e0_0X := (((), (), (), (), ()), (s.2.1, s.2.2.2.1, s.2.2.2.2.1, wordsOf s.2.2.1, ()))
theorem bcomp_h0 : ∀ s : bcomp_s0X, bcomp_ok0 s = true → ∃ m e, loopRun bcomp_U0 m s = some e ∧ (bcomp_f0 bcomp_g0 s).run = some e := by
  rintro ⟨⟨⟨⟩, ⟨⟩, ⟨⟩, ⟨⟩, ⟨⟩, i, ⟨⟩⟩, ⟨c0, c1, c2, c3, c4, ⟨⟩⟩⟩ h
  have h' := of_decide_eq_true h
  dsimp only at h'
  obtain ⟨rfl, hl, rfl⟩ := h'
  have := (loop_upto (T := bcomp_U0) (fun k m => ((((), (), (), (), (), (k : Int), ()), (c0, c1, c2, c3, m, ())) : bcomp_s0X)) (fun k m => m.set k (wordAt c1 k))
    (fun m => (⟨(.exit 0, bcomp_e0_0), (((), (), (), (), ()), (c0, c2, c3, m, ()))⟩ : LEnd)) 16 (List.replicate 16 0) (fun _ m => m.length = 16) (by simp) (fun k m hk hm => ⟨?_, by rw [List.length_set]; exact hm⟩) (fun m hm => ?_)).1
  · obtain ⟨n, hn⟩ := this
    exact ⟨n, _, hn, rfl⟩
  · have e1 : (8 * (k : Int) + 8 - 8 * (k : Int)).toNat = 8 := by omega
    have e2 : (8 * (k : Int)).toNat = 8 * k := by omega
    have hw : ((c1.drop (8 * k)).take 8).length = 8 := by simp; omega
    refine (OT.run_t (decide_eq_true (by dsimp only; omega))).trans ((gd_run ?_).trans ?_)
    · simp only [e1, e2, hl, hm, List.all_cons, List.all_nil, Bool.and_true, Bool.and_eq_true]
      refine ⟨inR_of (by omega), inR_of (by omega), inR_of (by omega), ⟨by decide, between_of (by omega)⟩, ?_, inB_of (by omega), decide_eq_true (by omega), inR_of (by omega)⟩
      simp only [bword_pre, hw]
      decide
    · simp only [OT.run_ok, e1, e2, hw, Nat.add_zero]
      rfl
  · exact OT.run_f (decide_eq_false (by dsimp only; omega))

/-- Half a round: the columns. -/
def half1 (m : List UInt64) (row : List UInt8) (v : List UInt64) : List UInt64 := upto (fun k v => gmix v k (4 + k) (8 + k) (12 + k) (atF m row (2 * (k : Int))) (atF m row (2 * (k : Int) + 1))) v 4
/-- The other half: the diagonals. -/
def half2 (m : List UInt64) (row : List UInt8) (v : List UInt64) : List UInt64 := upto (fun k v => gmix v k (4 + (k + 1) % 4) (8 + (k + 2) % 4) (12 + (k + 3) % 4) (atF m row (8 + 2 * (k : Int))) (atF m row (9 + 2 * (k : Int)))) v 4

theorem half1_length (m : List UInt64) (row : List UInt8) (v : List UInt64) : (half1 m row v).length = v.length := by simp only [half1, upto, gmix_length]
theorem half2_length (m : List UInt64) (row : List UInt8) (v : List UInt64) : (half2 m row v).length = v.length := by simp only [half2, upto, gmix_length]

def bcomp_ok4 (s : bcomp_s4X) : Bool := decide (s.1.2.2.2.2.2.2.2.1 = 0 ∧ s.2.2.2.1.length = 16 ∧ s.2.2.2.2.1.length = 16) && rowOk s.2.2.2.2.2.2.1.1
def bcomp_g4 (s : bcomp_s4X) : bcomp_e4_4X := (((), (), (), (), (), (), s.1.2.2.2.2.2.2.1, ()), (s.2.1, s.2.2.1, half1 s.2.2.2.2.1 s.2.2.2.2.2.2.1.1 s.2.2.2.1, s.2.2.2.2.1, s.2.2.2.2.2.1, (s.2.2.2.2.2.2.1.1, ()), ()))
theorem bcomp_h4 : ∀ s : bcomp_s4X, bcomp_ok4 s = true → ∃ m e, loopRun bcomp_U4 m s = some e ∧ (bcomp_f4 bcomp_g4 s).run = some e := by
  rintro ⟨⟨⟨⟩, ⟨⟩, ⟨⟩, ⟨⟩, ⟨⟩, ⟨⟩, r, i, ⟨⟩⟩, ⟨c0, c1, v, m, c4, ⟨row, ⟨⟩⟩, ⟨⟩⟩⟩ h
  simp only [bcomp_ok4, Bool.and_eq_true, decide_eq_true_eq] at h
  obtain ⟨⟨rfl, hv, hm⟩, hr⟩ := h
  have := (loop_upto (T := bcomp_U4) (fun k v => ((((), (), (), (), (), (), r, (k : Int), ()), (c0, c1, v, m, c4, (row, ()), ())) : bcomp_s4X)) (fun k v => gmix v k (4 + k) (8 + k) (12 + k) (atF m row (2 * (k : Int))) (atF m row (2 * (k : Int) + 1)))
    (fun v => (⟨(.exit 4, bcomp_e4_4), (((), (), (), (), (), (), r, ()), (c0, c1, v, m, c4, (row, ()), ()))⟩ : LEnd)) 4 v (fun _ v => v.length = 16) hv (fun k v hk hv => ⟨?_, by rw [gmix_length]; exact hv⟩) (fun v hv => ?_)).1
  · obtain ⟨n, hn⟩ := this
    exact ⟨n, _, hn, rfl⟩
  · have e1 : (4 + (k : Int)).toNat = 4 + k := by omega
    have e2 : (8 + (k : Int)).toNat = 8 + k := by omega
    have e3 : (12 + (k : Int)).toNat = 12 + k := by omega
    refine (OT.run_t (decide_eq_true (by dsimp only; omega))).trans ((gd_run ?_).trans ?_)
    · simp only [List.all_cons, List.all_nil, Bool.and_true, Bool.and_eq_true]
      exact ⟨inR_of (by omega), inR_of (by omega), inR_of (by omega), inR_of (by omega), bat_pre_of hm hr (by omega) (by omega) _ _ _, inR_of (by omega), inR_of (by omega), bat_pre_of hm hr (by omega) (by omega) _ _ _, bmix_pre_of hv (by omega) (by omega) (by omega) (by omega) _ _ _ _ _, inR_of (by omega)⟩
    · simp only [OT.run_ok, e1, e2, e3]
      rfl
  · exact OT.run_f (decide_eq_false (by dsimp only; omega))

def bcomp_ok6 (s : bcomp_s6X) : Bool := decide (s.1.2.2.2.2.2.2.2.1 = 0 ∧ s.2.2.2.1.length = 16 ∧ s.2.2.2.2.1.length = 16) && rowOk s.2.2.2.2.2.2.1.1
def bcomp_g6 (s : bcomp_s6X) : bcomp_e6_6X := (((), (), (), (), (), s.1.2.2.2.2.2.2.1, ()), (s.2.1, s.2.2.1, half2 s.2.2.2.2.1 s.2.2.2.2.2.2.1.1 s.2.2.2.1, s.2.2.2.2.1, s.2.2.2.2.2.1, ()))
theorem bcomp_h6 : ∀ s : bcomp_s6X, bcomp_ok6 s = true → ∃ m e, loopRun bcomp_U6 m s = some e ∧ (bcomp_f6 bcomp_g6 s).run = some e := by
  rintro ⟨⟨⟨⟩, ⟨⟩, ⟨⟩, ⟨⟩, ⟨⟩, ⟨⟩, r, i, ⟨⟩⟩, ⟨c0, c1, v, m, c4, ⟨row, ⟨⟩⟩, ⟨⟩⟩⟩ h
  simp only [bcomp_ok6, Bool.and_eq_true, decide_eq_true_eq] at h
  obtain ⟨⟨rfl, hv, hm⟩, hr⟩ := h
  have := (loop_upto (T := bcomp_U6) (fun k v => ((((), (), (), (), (), (), r, (k : Int), ()), (c0, c1, v, m, c4, (row, ()), ())) : bcomp_s6X)) (fun k v => gmix v k (4 + (k + 1) % 4) (8 + (k + 2) % 4) (12 + (k + 3) % 4) (atF m row (8 + 2 * (k : Int))) (atF m row (9 + 2 * (k : Int))))
    (fun v => (⟨(.exit 6, bcomp_e6_6), (((), (), (), (), (), r, ()), (c0, c1, v, m, c4, ()))⟩ : LEnd)) 4 v (fun _ v => v.length = 16) hv (fun k v hk hv => ⟨?_, by rw [gmix_length]; exact hv⟩) (fun v hv => ?_)).1
  · obtain ⟨n, hn⟩ := this
    exact ⟨n, _, hn, rfl⟩
  · have t1 : Int.tmod ((k : Int) + 1) 4 = (((k + 1) % 4 : Nat) : Int) := by rw [Int.tmod_eq_emod_of_nonneg (by omega)]; omega
    have t2 : Int.tmod ((k : Int) + 2) 4 = (((k + 2) % 4 : Nat) : Int) := by rw [Int.tmod_eq_emod_of_nonneg (by omega)]; omega
    have t3 : Int.tmod ((k : Int) + 3) 4 = (((k + 3) % 4 : Nat) : Int) := by rw [Int.tmod_eq_emod_of_nonneg (by omega)]; omega
    have e1 : (4 + (((k + 1) % 4 : Nat) : Int)).toNat = 4 + (k + 1) % 4 := by omega
    have e2 : (8 + (((k + 2) % 4 : Nat) : Int)).toNat = 8 + (k + 2) % 4 := by omega
    have e3 : (12 + (((k + 3) % 4 : Nat) : Int)).toNat = 12 + (k + 3) % 4 := by omega
    refine (OT.run_t (decide_eq_true (by dsimp only; omega))).trans ((gd_run ?_).trans ?_)
    · simp only [t1, t2, t3, List.all_cons, List.all_nil, Bool.and_true, Bool.and_eq_true]
      exact ⟨inR_of (by omega), inR_of (by omega), inR_of (by omega), inR_of (by omega), inR_of (by omega), inR_of (by omega), inR_of (by omega), inR_of (by omega), bat_pre_of hm hr (by omega) (by omega) _ _ _, inR_of (by omega), inR_of (by omega), bat_pre_of hm hr (by omega) (by omega) _ _ _, bmix_pre_of hv (by omega) (by omega) (by omega) (by omega) _ _ _ _ _, inR_of (by omega)⟩
    · simp only [OT.run_ok, t1, t2, t3, e1, e2, e3]
      rfl
  · exact OT.run_f (decide_eq_false (by dsimp only; omega))

def rowAt (k : Nat) : List UInt8 := bSched.getD (k % 10) []
theorem rowAt_ok (k : Nat) : rowOk (rowAt k) = true := by
  have : k % 10 < 10 := Nat.mod_lt _ (by decide)
  unfold rowAt
  generalize k % 10 = j at this
  have h : ∀ j : Fin 10, rowOk (bSched.getD j.val []) = true := by decide +kernel
  exact h ⟨j, this⟩

def roundsOf (m : List UInt64) (v : List UInt64) : List UInt64 := upto (fun k v => half2 m (rowAt k) (half1 m (rowAt k) v)) v 12
theorem upto_length {f : Nat → List UInt64 → List UInt64} (hf : ∀ k v, (f k v).length = v.length) (v : List UInt64) : ∀ n, (upto f v n).length = v.length
  | 0 => rfl
  | n + 1 => by simp only [upto, hf, upto_length hf v n]

def bcomp_ok2 (s : bcomp_s2X) : Bool := decide (s.1.2.2.2.2.2.1 = 0 ∧ s.2.2.2.1.length = 16 ∧ s.2.2.2.2.1.length = 16 ∧ s.2.2.2.2.2.1 = bSched)
def bcomp_g2 (s : bcomp_s2X) : bcomp_e2_2X := (((), (), (), ()), (s.2.1, s.2.2.1, roundsOf s.2.2.2.2.1 s.2.2.2.1, ()))
theorem bcomp_h2 : ∀ s : bcomp_s2X, bcomp_ok2 s = true → ∃ m e, loopRun (bcomp_U2 bcomp_ok4 bcomp_g4 bcomp_ok6 bcomp_g6) m s = some e ∧ (bcomp_f2 bcomp_g2 s).run = some e := by
  rintro ⟨⟨⟨⟩, ⟨⟩, ⟨⟩, ⟨⟩, ⟨⟩, i, ⟨⟩⟩, ⟨c0, c1, v, m, c4, ⟨⟩⟩⟩ h
  have h' := of_decide_eq_true h
  dsimp only at h'
  obtain ⟨rfl, hv, hm, rfl⟩ := h'
  have := (loop_upto (T := bcomp_U2 bcomp_ok4 bcomp_g4 bcomp_ok6 bcomp_g6) (fun k v => ((((), (), (), (), (), (k : Int), ()), (c0, c1, v, m, bSched, ())) : bcomp_s2X)) (fun k v => half2 m (rowAt k) (half1 m (rowAt k) v))
    (fun v => (⟨(.exit 2, bcomp_e2_2), (((), (), (), ()), (c0, c1, v, ()))⟩ : LEnd)) 12 v (fun _ v => v.length = 16) hv (fun k v hk hv => ⟨?_, by rw [half2_length, half1_length]; exact hv⟩) (fun v hv => ?_)).1
  · obtain ⟨n, hn⟩ := this
    exact ⟨n, _, hn, rfl⟩
  · have t1 : Int.tmod (k : Int) 10 = ((k % 10 : Nat) : Int) := by rw [Int.tmod_eq_emod_of_nonneg (by omega)]; omega
    have e1 : ((k % 10 : Nat) : Int).toNat = k % 10 := by omega
    have hr : rowOk (bSched.getD (k % 10) []) = true := rowAt_ok k
    refine (OT.run_t (decide_eq_true (by dsimp only; omega))).trans ((gd_run ?_).trans ?_)
    · simp only [t1, e1, List.all_cons, List.all_nil, Bool.and_true, Bool.and_eq_true]
      refine ⟨inB_of (by omega), decide_eq_true (show k % 10 + 0 < 10 by omega), ?_, ?_, ?_⟩
      · simp only [bcomp_ok4, Bool.and_eq_true, decide_eq_true_eq]
        exact ⟨⟨trivial, hv, hm⟩, hr⟩
      · simp only [bcomp_ok6, bcomp_g4, Bool.and_eq_true, decide_eq_true_eq]
        exact ⟨⟨trivial, by rw [half1_length]; exact hv, hm⟩, hr⟩
      · exact inR_of (by simp only [bcomp_g6, bcomp_g4]; omega)
    · have hrow : bSched.getD (k % 10) [] = rowAt k := rfl
      simp only [OT.run_ok, t1, e1, Nat.add_zero, bcomp_g6, bcomp_g4, hrow]
      rfl
  · exact OT.run_f (decide_eq_false (by dsimp only; omega))

def mergeH (h v : List UInt64) : List UInt64 := upto (fun k h => h.set k (h.getD k 0 ^^^ (v.getD k 0 ^^^ v.getD (k + 8) 0))) h 8

def bcomp_ok8 (s : bcomp_s8X) : Bool := decide (s.1.2.2.2.1 = 0 ∧ s.2.1.length = 8 ∧ s.2.2.2.1.length = 16)
def bcomp_g8 (s : bcomp_s8X) : bcomp_e8_8X := (((), (), ()), (mergeH s.2.1 s.2.2.2.1, s.2.2.1, ()))
theorem bcomp_h8 : ∀ s : bcomp_s8X, bcomp_ok8 s = true → ∃ m e, loopRun bcomp_U8 m s = some e ∧ (bcomp_f8 bcomp_g8 s).run = some e := by
  rintro ⟨⟨⟨⟩, ⟨⟩, ⟨⟩, i, ⟨⟩⟩, ⟨h, c1, v, ⟨⟩⟩⟩ hh
  have h' := of_decide_eq_true hh
  dsimp only at h'
  obtain ⟨rfl, hl, hv⟩ := h'
  have := (loop_upto (T := bcomp_U8) (fun k h => ((((), (), (), (k : Int), ()), (h, c1, v, ())) : bcomp_s8X)) (fun k h => h.set k (h.getD k 0 ^^^ (v.getD k 0 ^^^ v.getD (k + 8) 0)))
    (fun h => (⟨(.exit 8, bcomp_e8_8), (((), (), ()), (h, c1, ()))⟩ : LEnd)) 8 h (fun _ h => h.length = 8) hl (fun k h hk hl => ⟨?_, by rw [List.length_set]; exact hl⟩) (fun h hl => ?_)).1
  · obtain ⟨n, hn⟩ := this
    exact ⟨n, _, hn, rfl⟩
  · have e1 : ((k : Int) + 8).toNat = k + 8 := by omega
    refine (OT.run_t (decide_eq_true (by dsimp only; omega))).trans ((gd_run ?_).trans ?_)
    · simp only [e1, hl, hv, List.all_cons, List.all_nil, Bool.and_true, Bool.and_eq_true]
      exact ⟨inB_of (by omega), decide_eq_true (by omega), inB_of (by omega), decide_eq_true (by omega), inR_of (by omega), inB_of (by omega), decide_eq_true (by omega), inB_of (by omega), decide_eq_true (by omega), inR_of (by omega)⟩
    · simp only [OT.run_ok, e1, Nat.add_zero]
      rfl
  · exact OT.run_f (decide_eq_false (by dsimp only; omega))

/-- The work on a block, ahead of the rounds. -/
def laidV (h : List UInt64) (count : UInt64) (last : Bool) : List UInt64 :=
  let v := (h ++ bIV).set 12 ((h ++ bIV).getD 12 0 ^^^ count)
  cond last (v.set 14 (~~~v.getD 14 0)) v

/-- A block taken into the state. -/
def compr (h : List UInt64) (b : List UInt8) (count : UInt64) (last : Bool) : List UInt64 := mergeH h (roundsOf (wordsOf b) (laidV h count last))

theorem wordsOf_length (b : List UInt8) : (wordsOf b).length = 16 := by
  unfold wordsOf; rw [upto_length (fun k v => List.length_set)]; rfl
theorem roundsOf_length (m v : List UInt64) : (roundsOf m v).length = v.length := upto_length (fun k v => by rw [half2_length, half1_length]) v 12
theorem mergeH_length (h v : List UInt64) : (mergeH h v).length = h.length := upto_length (fun k v => List.length_set) h 8

theorem bcomp_ok0_of {b : List UInt8} {c0 c2 c3 : List UInt64} (hb : b.length = 128) : bcomp_ok0 (((), (), (), (), (), 0, ()), (c0, b, c2, c3, [0, 0, 0, 0, 0, 0, 0, 0, 0, 0, 0, 0, 0, 0, 0, 0], ())) = true := decide_eq_true ⟨rfl, hb, rfl⟩
theorem bcomp_ok2_of {c0 c1 v m : List UInt64} (hv : v.length = 16) (hm : m.length = 16) : bcomp_ok2 (((), (), (), (), (), 0, ()), (c0, c1, v, m, bSched, ())) = true := decide_eq_true ⟨rfl, hv, hm, rfl⟩
theorem bcomp_ok8_of {c0 c1 v : List UInt64} (h0 : c0.length = 8) (hv : v.length = 16) : bcomp_ok8 (((), (), (), 0, ()), (c0, c1, v, ())) = true := decide_eq_true ⟨rfl, h0, hv⟩

def bcomp_pre (x : bcompX) : Bool := decide (x.1.1.length = 8 ∧ x.1.2.1.length = 128)
def bcomp_F (x : bcompX) : OT bcomp_S.Y := .ok ⟨bcomp_o0, ((compr x.1.1 x.1.2.1 x.1.2.2.1 x.1.2.2.2.1, ()), ())⟩

theorem bcomp_ok : SummOk Try.prog 25 (bcomp_S.summ bcomp_pre bcomp_F) := bcomp_main bcomp_ok0 bcomp_g0 bcomp_ok4 bcomp_g4 bcomp_ok6 bcomp_g6 bcomp_ok2 bcomp_g2 bcomp_ok8 bcomp_g8 bcomp_h0 bcomp_h4 bcomp_h6 bcomp_h2 bcomp_h8 _ _ fun x oy hp ho => by
  rw [← ho]
  obtain ⟨⟨h, b, count, last, ⟨⟩⟩, ⟨⟩⟩ := x
  simp only [bcomp_pre, decide_eq_true_eq] at hp
  obtain ⟨hh, hb⟩ := hp
  have t1 : tab h 8 0 = h := tab_eq hh
  have t2 : tab b 128 0 = b := tab_eq hb
  have t3 : tab bSched 10 [] = bSched := tab_eq rfl
  have v1 : [] ++ (List.take 8 h ++ List.drop (0 + min h.length 8) [(0 : UInt64), 0, 0, 0, 0, 0, 0, 0, 0, 0, 0, 0, 0, 0, 0, 0]) = h ++ List.replicate 8 0 := by
    rw [hh, List.nil_append, List.take_of_length_le (by omega)]; rfl
  have v2 : List.take 8 (h ++ List.replicate 8 (0 : UInt64)) ++ (bIV ++ List.drop 16 (h ++ List.replicate 8 (0 : UInt64))) = h ++ bIV := by
    rw [List.take_append_of_le_length (by omega), List.take_of_length_le (by omega), List.drop_eq_nil_of_le (by simp; omega), List.append_nil]
  have hv : ∀ c l, (laidV h c l).length = 16 := fun c l => by
    unfold laidV
    cases l <;> simp [hh] <;> rfl
  have hm : (wordsOf b).length = 16 := wordsOf_length b
  have hr : ∀ c l, (roundsOf (wordsOf b) (laidV h c l)).length = 16 := fun c l => by rw [roundsOf_length]; exact hv c l
  have hM : ∀ c l, (compr h b c l).length = 8 := fun c l => by unfold compr; rw [mergeH_length]; exact hh
  have e8 : [(7640891576956012808 : UInt64), 13503953896175478587, 4354685564936845355, 11912009170470909681, 5840696475078001361, 11170449401992604703, 2270897969802886507, 6620516959819538809] = bIV := rfl
  have key : ∀ M : List UInt64, M.length = 8 → tab (lay [(0 : UInt64), 0, 0, 0, 0, 0, 0, 0] M 8 0) 8 0 = M := fun M hM => by rw [lay_eq (n := 8) rfl hM, tab_eq hM]
  have l1 : List.set (h ++ bIV) 12 ((h ++ bIV).getD 12 0 ^^^ count) = laidV h count false := rfl
  have l2 : List.set (laidV h count false) 14 (~~~(laidV h count false).getD 14 0) = laidV h count true := rfl
  have l3 : ∀ c l, mergeH h (roundsOf (wordsOf b) (laidV h c l)) = compr h b c l := fun _ _ => rfl
  cases last
  · refine (OT.run_f rfl).trans ((gd_run ?_).trans ?_)
    · simp only [t1, t2, t3, v1, List.all_cons, List.all_nil, Bool.and_true, Bool.and_eq_true]
      rw [e8]
      simp only [v2, bcomp_g0, bcomp_g2, bcomp_g8, l1, l3, lay_length, hM]
      exact ⟨bcomp_ok0_of hb, bcomp_ok2_of (hv _ _) hm, bcomp_ok8_of hh (hr _ _), rfl, rfl, rfl⟩
    · simp only [t1, t2, t3, v1]
      rw [e8]
      simp only [v2, bcomp_g0, bcomp_g2, bcomp_g8, l1, l3]
      rw [key _ (hM _ _)]
      rfl
  · refine (OT.run_t rfl).trans ((gd_run ?_).trans ?_)
    · simp only [t1, t2, t3, v1, List.all_cons, List.all_nil, Bool.and_true, Bool.and_eq_true]
      rw [e8]
      simp only [v2, bcomp_g0, bcomp_g2, bcomp_g8, l1, l2, l3, lay_length, hM]
      exact ⟨bcomp_ok0_of hb, bcomp_ok2_of (hv _ _) hm, bcomp_ok8_of hh (hr _ _), rfl, rfl, rfl⟩
    · simp only [t1, t2, t3, v1]
      rw [e8]
      simp only [v2, bcomp_g0, bcomp_g2, bcomp_g8, l1, l2, l3]
      rw [key _ (hM _ _)]
      rfl

theorem bcomp_known : SummOk Try.prog 25 (bcomp_S.summ bcomp_pre bcomp_F) := bcomp_ok

def E_bcomp : Env := envCons 25 (bcomp_S.summ bcomp_pre bcomp_F) E_bat
theorem E_bcomp_ok : EnvOk Try.prog E_bcomp := envOk_cons bcomp_known E_bat_ok
theorem E_bcomp_mono : EnvMono E_bcomp := envMono_cons fn_mono E_bat_mono
theorem E_bcomp_any : AnyOk Try.prog te E_bcomp := any_ok follows te_ok E_bcomp_ok E_bcomp_mono

end Go.Proofs.Ytkngdfhigpjciaa

/- The function slices.Clone[[]byte,byte]: what it makes of its arguments. No statement of a seat is proved here. -/
namespace Go.Proofs.Ytkngdfhigpjciaa
open Sx Go
set_option maxRecDepth 100000

def bclone_S : FnSpec := ⟨[.val false (.list .u8)], [], true, 0, false⟩

abbrev bcloneX : Type := ((List (UInt8)) × Unit) × (Unit)

def bclone_o0 : OutSh := ⟨[.own 0], [(0, .row .u8)], false⟩

def bclone_sel : SV → Option OutSh := fun _ => some bclone_o0

def bclone_T (a0 : List (UInt8)) : OT bclone_S.Y :=
  (gd [decide (((0 : Nat) + List.length a0) * (1 : Nat) ≤ (140737488355328 : Nat))] (.ok ⟨bclone_o0, (((), ()), ([] ++ a0, ()))⟩))
def bclone_T' : OT bclone_S.Y := .ok ⟨bclone_o0, (((), ()), ([], ()))⟩

theorem bclone_q (x : bcloneX) (Q : bclone_S.Y → Prop) : wpf te E_bcomp lamNil 1000 Try.f26 (bclone_S.inp.inj x).tm (bclone_S.inp.inj x).hp (fnK bclone_S bclone_sel Q) (fun _ _ => False) =
    Bool.rec (motive := fun _ => Prop) ((bclone_T x.1.1).wpR Q) (bclone_T'.wpR Q ∧ (bclone_T x.1.1).wpR Q) (List.isEmpty x.1.1) := by kernel_rfl

def bclone_pre (x : bcloneX) : Bool := decide (x.1.1.length ≤ 140737488355328)
def bclone_F (x : bcloneX) : OT bclone_S.Y := .ok ⟨bclone_o0, (((), ()), (x.1.1, ()))⟩

theorem bclone_ok : SummOk Try.prog 26 (bclone_S.summ bclone_pre bclone_F) := by
  refine fn_ok te_ok E_bcomp_ok E_bcomp_any (f := 26) (fn := Try.f26) (c := codeOf Try.f26) (by kernel_rfl) (by kernel_rfl) (by kernel_rfl) (S := bclone_S) (k := 0) (by kernel_rfl) (Λ := lamNil) (fun R hR => lamOk_nil) (n := 1000) fun x oy hp hr => ⟨fnK bclone_S bclone_sel (fun z => z = oy), fun _ _ => False, ?_, fun v hp hq => ?_, fun _ _ hq => hq.elim⟩
  · refine (bclone_q x _).mpr ?_
    cases hr
    have hp' : x.1.1.length ≤ 140737488355328 := of_decide_eq_true hp
    have h1 : (bclone_T x.1.1).wpR (fun z => z = ⟨bclone_o0, (((), ()), (x.1.1, ()))⟩) := by
      rw [OT.wpR_eq]
      refine OT.wp_of_run (gd_run ?_) rfl
      simp only [List.all_cons, List.all_nil, Bool.and_true]
      exact decide_eq_true (by omega)
    cases hb : List.isEmpty x.1.1
    · exact h1
    · refine ⟨?_, h1⟩
      rw [List.isEmpty_iff.1 hb]
      rfl
  · unfold fnK at hq
    split at hq
    · rename_i o ho
      split at hq
      · rename_i y hy
        subst hq
        exact ⟨by cases ho; rfl, hy⟩
      · exact hq.elim
    · exact hq.elim

theorem bclone_known : SummOk Try.prog 26 (bclone_S.summ bclone_pre bclone_F) := bclone_ok

def E_bclone : Env := envCons 26 (bclone_S.summ bclone_pre bclone_F) E_bcomp
theorem E_bclone_ok : EnvOk Try.prog E_bclone := envOk_cons bclone_known E_bcomp_ok
theorem E_bclone_mono : EnvMono E_bclone := envMono_cons fn_mono E_bcomp_mono
theorem E_bclone_any : AnyOk Try.prog te E_bclone := any_ok follows te_ok E_bclone_ok E_bclone_mono

end Go.Proofs.Ytkngdfhigpjciaa

/- The function sigil/blake.New: what it makes of its arguments. No statement of a seat is proved here. -/
namespace Go.Proofs.Ytkngdfhigpjciaa
open Sx Go
set_option maxRecDepth 100000

def bnew_S : FnSpec := ⟨[.val false .str, .val false .int], [], true, 0, false⟩

abbrev bnewX : Type := ((List UInt8) × (Int) × Unit) × (Unit)

def bnew_o0 : OutSh := ⟨[.nilp, .val false .int], [], false⟩

def bnew_o1 : OutSh := ⟨[.ptr 0 0 0, .val false .int], [(0, .cells [.val false .int, .val false .u64, .val false .u64, .val false .u64, .val false .u64, .val false .u64, .val false .u64, .val false .u64, .val false .u64, .own 1, .val false .u64]), (1, .row .u8)], false⟩

def bnew_sel : SV → Option OutSh
  | .tup [.nilp, _] => some bnew_o0
  | .tup [.ptr _ _ _ _, _] => some bnew_o1
  | _ => none

def bnew_T (a0 : List UInt8) (a1 : Int) : OT bnew_S.Y :=
  let z0 : List UInt8 := List.take (16 : Nat) a0 ++ List.drop (List.length a0) [(0 : UInt8), (0 : UInt8), (0 : UInt8), (0 : UInt8), (0 : UInt8), (0 : UInt8), (0 : UInt8), (0 : UInt8), (0 : UInt8), (0 : UInt8), (0 : UInt8), (0 : UInt8), (0 : UInt8), (0 : UInt8), (0 : UInt8), (0 : UInt8)]
  let z1 : Bool := decide ((16 : Nat) ≤ List.length z0) && true
  let z2 : List UInt8 := List.take (8 : Nat) (List.drop (0 : Nat) z0)
  let z3 : List UInt8 := List.take (8 : Nat) (List.drop (8 : Nat) z0)
  (.br (decide ((16 : Int) < (↑(List.length a0) : Int)))
  (.ok ⟨bnew_o0, (((), ((30 : Int), ())), ())⟩)
  (.br (decide (a1 < (1 : Int)))
    (.ok ⟨bnew_o0, (((), ((30 : Int), ())), ())⟩)
    (.br (decide ((64 : Int) < a1))
      (.ok ⟨bnew_o0, (((), ((30 : Int), ())), ())⟩)
      (gd [z1, bword_pre ((z2, ()), ()), z1, bword_pre ((z3, ()), ())] (.ok ⟨bnew_o1, (((), ((0 : Int), ())), ((a1, ((7640891576956012808 : UInt64) ^^^ (16842752 : UInt64) + i2u a1, ((13503953896175478587 : UInt64), ((4354685564936845355 : UInt64), ((11912009170470909681 : UInt64), ((5840696475078001361 : UInt64), ((11170449401992604703 : UInt64), ((2270897969802886507 : UInt64) ^^^ wordK z2 (List.length z2), ((6620516959819538809 : UInt64) ^^^ wordK z3 (List.length z3), ((), ((0 : UInt64), ()))))))))))), ([], ())))⟩)))))

theorem bnew_q (x : bnewX) (Q : bnew_S.Y → Prop) : wpf te E_bclone lamNil 1000 Try.f12 (bnew_S.inp.inj x).tm (bnew_S.inp.inj x).hp (fnK bnew_S bnew_sel Q) (fun _ _ => False) = (bnew_T (x.1.1) (x.1.2.1)).wpR Q := by kernel_rfl

theorem bnew_main (pre : bnewX → Bool) (F : bnewX → OT bnew_S.Y) (hF : ∀ (x : bnewX) oy, pre x = true → (F x).run = some oy → (bnew_T (x.1.1) (x.1.2.1)).run = some oy) : SummOk Try.prog 12 (bnew_S.summ pre F) :=
  fn_tree te_ok E_bclone_ok E_bclone_any (f := 12) (fn := Try.f12) (c := codeOf Try.f12) (by kernel_rfl) (by kernel_rfl) (by kernel_rfl) (S := bnew_S) (k := 0) (by kernel_rfl) (fun R hR => lamOk_nil) (n := 1000) (sel := bnew_sel) (fun v o h => by unfold bnew_sel at h; split at h <;> first | (cases h; rfl) | (cases h; done)) (pre := pre) (F := F) (T := fun x => bnew_T (x.1.1) (x.1.2.1)) (fun x Q => bnew_q x Q) hF

/-- The person, with bytes 0 behind it. -/
def pad16 (p : List UInt8) : List UInt8 := p.take 16 ++ (List.replicate 16 (0 : UInt8)).drop p.length
def badKey (p : List UInt8) (n : Int) : Bool := decide (16 < (p.length : Int)) || decide (n < 1) || decide (64 < n)

theorem pad16_length {p : List UInt8} (h : p.length ≤ 16) : (pad16 p).length = 16 := by
  simp only [pad16, List.length_append, List.length_take, List.length_drop, List.length_replicate]
  omega

/-- A digest as data: so many bytes long, its state, so many bytes counted. -/
abbrev DigX : Type := Int × UInt64 × UInt64 × UInt64 × UInt64 × UInt64 × UInt64 × UInt64 × UInt64 × Unit × UInt64 × Unit
def digT (n : Int) (h : List UInt64) (c : UInt64) : DigX := (n, h.getD 0 0, h.getD 1 0, h.getD 2 0, h.getD 3 0, h.getD 4 0, h.getD 5 0, h.getD 6 0, h.getD 7 0, (), c, ())

/-- The state that a digest begins with. -/
def newH (p : List UInt8) (n : Int) : List UInt64 := [0x6a09e667f3bcc908 ^^^ (16842752 + i2u n), 0xbb67ae8584caa73b, 0x3c6ef372fe94f82b, 0xa54ff53a5f1d36f1, 0x510e527fade682d1, 0x9b05688c2b3e6c1f,
  0x1f83d9abfb41bd6b ^^^ wordK ((pad16 p).take 8) 8, 0x5be0cd19137e2179 ^^^ wordK (((pad16 p).drop 8).take 8) 8]

def bnew_pre (_ : bnewX) : Bool := true
def bnew_F (x : bnewX) : OT bnew_S.Y := .br (badKey x.1.1 x.1.2.1) (.ok ⟨bnew_o0, (((), ((30 : Int), ())), ())⟩)
  (.ok ⟨bnew_o1, (((), ((0 : Int), ())), (digT x.1.2.1 (newH x.1.1 x.1.2.1) 0, ([], ())))⟩)

theorem bnew_ok : SummOk Try.prog 12 (bnew_S.summ bnew_pre bnew_F) := bnew_main _ _ fun x oy _ ho => by
  rw [← ho]
  obtain ⟨⟨p, n, ⟨⟩⟩, ⟨⟩⟩ := x
  clear ho
  by_cases h1 : 16 < (p.length : Int)
  · have e1 : decide (16 < (p.length : Int)) = true := decide_eq_true h1
    have eb : badKey p n = true := by simp only [badKey, e1, Bool.true_or]
    simp only [bnew_F, bnew_T, e1, eb]
    rfl
  · have e1 : decide (16 < (p.length : Int)) = false := decide_eq_false h1
    by_cases h2 : n < 1
    · have e2 : decide (n < 1) = true := decide_eq_true h2
      have eb : badKey p n = true := by simp only [badKey, e1, e2, Bool.true_or, Bool.false_or]
      simp only [bnew_F, bnew_T, e1, e2, eb]
      rfl
    · have e2 : decide (n < 1) = false := decide_eq_false h2
      by_cases h3 : 64 < n
      · have e3 : decide (64 < n) = true := decide_eq_true h3
        have eb : badKey p n = true := by simp only [badKey, e1, e2, e3, Bool.false_or]
        simp only [bnew_F, bnew_T, e1, e2, e3, eb]
        rfl
      · have e3 : decide (64 < n) = false := decide_eq_false h3
        have eb : badKey p n = false := by simp only [badKey, e1, e2, e3, Bool.false_or]
        have hl := pad16_length (p := p) (by omega)
        have hp : p.take 16 ++ List.drop p.length [(0 : UInt8), 0, 0, 0, 0, 0, 0, 0, 0, 0, 0, 0, 0, 0, 0, 0] = pad16 p := rfl
        have l1 : ((pad16 p).take 8).length = 8 := by simp only [List.length_take, hl]; omega
        have l2 : (((pad16 p).drop 8).take 8).length = 8 := by simp only [List.length_take, List.length_drop, hl]; omega
        simp only [bnew_F, bnew_T, e1, e2, e3, eb, hp, List.drop_zero, l1, l2]
        refine (gd_run ?_).trans rfl
        simp only [bword_pre, hl, l1, l2]
        decide

theorem bnew_known : SummOk Try.prog 12 (bnew_S.summ bnew_pre bnew_F) := bnew_ok

def E_bnew : Env := envCons 12 (bnew_S.summ bnew_pre bnew_F) E_bclone
theorem E_bnew_ok : EnvOk Try.prog E_bnew := envOk_cons bnew_known E_bclone_ok
theorem E_bnew_mono : EnvMono E_bnew := envMono_cons fn_mono E_bclone_mono
theorem E_bnew_any : AnyOk Try.prog te E_bnew := any_ok follows te_ok E_bnew_ok E_bnew_mono

end Go.Proofs.Ytkngdfhigpjciaa

/- The function (*sigil/blake.Digest).Write: what it makes of its arguments. No statement of a seat is proved here. -/
namespace Go.Proofs.Ytkngdfhigpjciaa
open Sx Go
set_option maxRecDepth 100000

/-- A digest's cells: its length, its state, what waits, how many bytes there were. -/
def digC (w : Sh) : CSh := .cells [.val false .int, .val false .u64, .val false .u64, .val false .u64, .val false .u64, .val false .u64, .val false .u64, .val false .u64, .val false .u64, w, .val false .u64]
def bwrite_S : FnSpec := ⟨[.ptr 0 0 0, .val false (.list .u8)], [(0, digC (.own 1)), (1, .row .u8)], true, 1, true⟩
def bwrite_s0 : Shape := ⟨61, [(0, .ptr 0 0 0)], [(0, digC (.val false (.list .u8))), (1, .gone)], 2, true⟩
def bwrite_e0_0 : Shape := bwrite_s0

abbrev bwriteX : Type := ((Unit) × (List (UInt8)) × Unit) × (((Int) × (UInt64) × (UInt64) × (UInt64) × (UInt64) × (UInt64) × (UInt64) × (UInt64) × (UInt64) × (Unit) × (UInt64) × Unit) × (List (UInt8)) × Unit)

abbrev bwrite_s0X : Type := ((Unit) × Unit) × (((Int) × (UInt64) × (UInt64) × (UInt64) × (UInt64) × (UInt64) × (UInt64) × (UInt64) × (UInt64) × (List (UInt8)) × (UInt64) × Unit) × (Unit) × Unit)

abbrev bwrite_e0_0X : Type := ((Unit) × Unit) × (((Int) × (UInt64) × (UInt64) × (UInt64) × (UInt64) × (UInt64) × (UInt64) × (UInt64) × (UInt64) × (List (UInt8)) × (UInt64) × Unit) × (Unit) × Unit)

def bwrite_x0 : SE → Option Shape := xsMk [(0, bwrite_e0_0)] none

def bwrite_T0 (c0_0 : Int) (c0_1 : UInt64) (c0_2 : UInt64) (c0_3 : UInt64) (c0_4 : UInt64) (c0_5 : UInt64) (c0_6 : UInt64) (c0_7 : UInt64) (c0_8 : UInt64) (c0_9 : List (UInt8)) (c0_10 : UInt64) : OT (Sum bwrite_s0X LEnd) :=
  let z0 : Nat := List.length c0_9
  let z1 : Int := (↑z0 : Int)
  let z2 : List UInt8 := List.drop (0 : Nat) (List.take (128 : Nat) c0_9)
  let z3 : Nat := List.length z2
  let z4 : List UInt64 := compr [c0_1, c0_2, c0_3, c0_4, c0_5, c0_6, c0_7, c0_8] (tab z2 (128 : Nat) (0 : UInt8)) (c0_10 + (128 : UInt64)) false
  (.br (decide ((128 : Int) < z1))
  (gd [between (0 : Int) (128 : Int) z0, decide ((128 : Nat) ≤ z3), decide ((128 : Nat) ≤ z3), between (128 : Int) z1 z0] (.ok (.inl (((), ()), ((c0_0, (List.getD z4 (0 : Nat) (0 : UInt64), (List.getD z4 (1 : Nat) (0 : UInt64), (List.getD z4 (2 : Nat) (0 : UInt64), (List.getD z4 (3 : Nat) (0 : UInt64), (List.getD z4 (4 : Nat) (0 : UInt64), (List.getD z4 (5 : Nat) (0 : UInt64), (List.getD z4 (6 : Nat) (0 : UInt64), (List.getD z4 (7 : Nat) (0 : UInt64), (List.drop (128 : Nat) c0_9, (c0_10 + (128 : UInt64), ()))))))))))), ((), ()))))))
  (.ok (.inr ⟨(.exit 0, bwrite_e0_0), (((), ()), ((c0_0, (c0_1, (c0_2, (c0_3, (c0_4, (c0_5, (c0_6, (c0_7, (c0_8, (c0_9, (c0_10, ()))))))))))), ((), ())))⟩)))

def bwrite_U0 (s : bwrite_s0X) : OT (Sum bwrite_s0X LEnd) := bwrite_T0 (s.2.1.1) (s.2.1.2.1) (s.2.1.2.2.1) (s.2.1.2.2.2.1) (s.2.1.2.2.2.2.1) (s.2.1.2.2.2.2.2.1) (s.2.1.2.2.2.2.2.2.1) (s.2.1.2.2.2.2.2.2.2.1) (s.2.1.2.2.2.2.2.2.2.2.1) (s.2.1.2.2.2.2.2.2.2.2.2.1) (s.2.1.2.2.2.2.2.2.2.2.2.2.1)

theorem bwrite_q0 (s : bwrite_s0X) (Q : Sum bwrite_s0X LEnd → Prop) : wps te E_bnew lamNil 1000 (loopOf (codeOf Try.f14) 0) (bwrite_s0.inj s) (stepK bwrite_s0 bwrite_x0 (Q : Sum bwrite_s0.T LEnd → Prop)) = (bwrite_U0 s).wpR Q := by kernel_rfl

def bwrite_f0 (g0_0 : bwrite_s0X → bwrite_e0_0X) (s : bwrite_s0X) : OT LEnd := (.ok ⟨(.exit 0, bwrite_e0_0), g0_0 s⟩)

def bwrite_o0 : OutSh := ⟨[], [(0, .cells [.val false .int, .val false .u64, .val false .u64, .val false .u64, .val false .u64, .val false .u64, .val false .u64, .val false .u64, .val false .u64, .own 1, .val false .u64]), (1, .row .u8)], false⟩

def bwrite_sel : SV → Option OutSh := fun _ => some bwrite_o0

def bwrite_T (ok0 : bwrite_s0X → Bool) (g0_0 : bwrite_s0X → bwrite_e0_0X) (a1 : List (UInt8)) (c0_0 : Int) (c0_1 : UInt64) (c0_2 : UInt64) (c0_3 : UInt64) (c0_4 : UInt64) (c0_5 : UInt64) (c0_6 : UInt64) (c0_7 : UInt64) (c0_8 : UInt64) (c0_10 : UInt64) (c1 : List (UInt8)) : OT bwrite_S.Y :=
  let z0 : (PUnit × PUnit) × (Int × UInt64 × UInt64 × UInt64 × UInt64 × UInt64 × UInt64 × UInt64 × UInt64 × List UInt8 × UInt64 × PUnit) × PUnit × PUnit := (((), ()), (c0_0, c0_1, c0_2, c0_3, c0_4, c0_5, c0_6, c0_7, c0_8, c1 ++ a1, c0_10, ()), (), ())
  let z1 : Int × UInt64 × UInt64 × UInt64 × UInt64 × UInt64 × UInt64 × UInt64 × UInt64 × List UInt8 × UInt64 × PUnit := (g0_0 z0).snd.fst
  let z2 : UInt64 × UInt64 × UInt64 × UInt64 × UInt64 × UInt64 × UInt64 × UInt64 × List UInt8 × UInt64 × PUnit := z1.snd
  let z3 : UInt64 × UInt64 × UInt64 × UInt64 × UInt64 × UInt64 × UInt64 × List UInt8 × UInt64 × PUnit := z2.snd
  let z4 : UInt64 × UInt64 × UInt64 × UInt64 × UInt64 × UInt64 × List UInt8 × UInt64 × PUnit := z3.snd
  let z5 : UInt64 × UInt64 × UInt64 × UInt64 × UInt64 × List UInt8 × UInt64 × PUnit := z4.snd
  let z6 : UInt64 × UInt64 × UInt64 × UInt64 × List UInt8 × UInt64 × PUnit := z5.snd
  let z7 : UInt64 × UInt64 × UInt64 × List UInt8 × UInt64 × PUnit := z6.snd
  let z8 : UInt64 × UInt64 × List UInt8 × UInt64 × PUnit := z7.snd
  let z9 : UInt64 × List UInt8 × UInt64 × PUnit := z8.snd
  let z10 : List UInt8 × UInt64 × PUnit := z9.snd
  let z11 : List UInt8 := z10.fst
  (gd [decide ((List.length c1 + List.length a1) * (1 : Nat) ≤ (140737488355328 : Nat)), ok0 z0, bclone_pre ((z11, ()), ())] (.ok ⟨bwrite_o0, ((), ((z1.fst, (z2.fst, (z3.fst, (z4.fst, (z5.fst, (z6.fst, (z7.fst, (z8.fst, (z9.fst, ((), (z10.snd.fst, ()))))))))))), (z11, ())))⟩))

theorem bwrite_q (ok0 : bwrite_s0X → Bool) (g0_0 : bwrite_s0X → bwrite_e0_0X) (x : bwriteX) (Q : bwrite_S.Y → Prop) : wpf te E_bnew (lamCons 0 (loopF bwrite_s0 0 ok0 (bwrite_f0 g0_0)) lamNil) 1000 Try.f14 (bwrite_S.inp.inj x).tm (bwrite_S.inp.inj x).hp (fnK bwrite_S bwrite_sel Q) (fun _ _ => False) = (bwrite_T ok0 g0_0 (x.1.2.1) (x.2.1.1) (x.2.1.2.1) (x.2.1.2.2.1) (x.2.1.2.2.2.1) (x.2.1.2.2.2.2.1) (x.2.1.2.2.2.2.2.1) (x.2.1.2.2.2.2.2.2.1) (x.2.1.2.2.2.2.2.2.2.1) (x.2.1.2.2.2.2.2.2.2.2.1) (x.2.1.2.2.2.2.2.2.2.2.2.2.1) (x.2.2.1)).wpR Q := by kernel_rfl

theorem bwrite_main (ok0 : bwrite_s0X → Bool) (g0_0 : bwrite_s0X → bwrite_e0_0X) (h0 : ∀ s : bwrite_s0X, ok0 s = true → ∃ m e, loopRun (bwrite_U0) m s = some e ∧ (bwrite_f0 g0_0 s).run = some e) (pre : bwriteX → Bool) (F : bwriteX → OT bwrite_S.Y) (hF : ∀ (x : bwriteX) oy, pre x = true → (F x).run = some oy → (bwrite_T ok0 g0_0 (x.1.2.1) (x.2.1.1) (x.2.1.2.1) (x.2.1.2.2.1) (x.2.1.2.2.2.1) (x.2.1.2.2.2.2.1) (x.2.1.2.2.2.2.2.1) (x.2.1.2.2.2.2.2.2.1) (x.2.1.2.2.2.2.2.2.2.1) (x.2.1.2.2.2.2.2.2.2.2.1) (x.2.1.2.2.2.2.2.2.2.2.2.2.1) (x.2.2.1)).run = some oy) : SummOk Try.prog 14 (bwrite_S.summ pre F) :=
  fn_tree te_ok E_bnew_ok E_bnew_any (f := 14) (fn := Try.f14) (c := codeOf Try.f14) (by kernel_rfl) (by kernel_rfl) (by kernel_rfl) (S := bwrite_S) (k := 2) (by kernel_rfl) (fun R hR => (lamOk_cons (c := (codeOf Try.f14)) (by kernel_rfl) (id := 0) (by kernel_rfl) (loop_ok te_ok E_bnew_ok E_bnew_any (sh := bwrite_s0) hR (xs := bwrite_x0) (xsMk_small (by kernel_rfl) (by kernel_rfl) hR) xsMk_pan lamOk_nil (n := 1000) (T := bwrite_U0) (fun s Q => bwrite_q0 s Q) (ok := ok0) (f := bwrite_f0 g0_0) h0) lamOk_nil)) (n := 1000) (sel := bwrite_sel) (fun v o h => by cases h; rfl) (pre := pre) (F := F) (T := fun x => bwrite_T ok0 g0_0 (x.1.2.1) (x.2.1.1) (x.2.1.2.1) (x.2.1.2.2.1) (x.2.1.2.2.2.1) (x.2.1.2.2.2.2.1) (x.2.1.2.2.2.2.2.1) (x.2.1.2.2.2.2.2.2.1) (x.2.1.2.2.2.2.2.2.2.1) (x.2.1.2.2.2.2.2.2.2.2.1) (x.2.1.2.2.2.2.2.2.2.2.2.2.1) (x.2.2.1)) (fun x Q => bwrite_q ok0 g0_0 x Q) hF

/-- A block is taken. -/
def eat1 (s : List UInt64 × UInt64 × List UInt8) : List UInt64 × UInt64 × List UInt8 := (compr s.1 (s.2.2.take 128) (s.2.1 + 128) false, s.2.1 + 128, s.2.2.drop 128)
/-- All blocks but the last are taken. -/
def eatAll (s : List UInt64 × UInt64 × List UInt8) : List UInt64 × UInt64 × List UInt8 := upto (fun _ s => eat1 s) s ((s.2.2.length - 1) / 128)

abbrev DigWX : Type := Int × UInt64 × UInt64 × UInt64 × UInt64 × UInt64 × UInt64 × UInt64 × UInt64 × List UInt8 × UInt64 × Unit
def digW (n : Int) (s : List UInt64 × UInt64 × List UInt8) : DigWX := (n, s.1.getD 0 0, s.1.getD 1 0, s.1.getD 2 0, s.1.getD 3 0, s.1.getD 4 0, s.1.getD 5 0, s.1.getD 6 0, s.1.getD 7 0, s.2.2, s.2.1, ())

def ofDigW (x : DigWX) : List UInt64 × UInt64 × List UInt8 := ([x.2.1, x.2.2.1, x.2.2.2.1, x.2.2.2.2.1, x.2.2.2.2.2.1, x.2.2.2.2.2.2.1, x.2.2.2.2.2.2.2.1, x.2.2.2.2.2.2.2.2.1], x.2.2.2.2.2.2.2.2.2.2.1, x.2.2.2.2.2.2.2.2.2.1)

theorem compr_length {h : List UInt64} {b : List UInt8} {c : UInt64} {l : Bool} (hh : h.length = 8) : (compr h b c l).length = 8 := by unfold compr; rw [mergeH_length]; exact hh

def bwrite_ok0 (_ : bwrite_s0X) : Bool := true
def bwrite_g0 (s : bwrite_s0X) : bwrite_e0_0X := (((), ()), (digW s.2.1.1 (eatAll (ofDigW s.2.1)), (), ()))
theorem bwrite_h0 : ∀ s : bwrite_s0X, bwrite_ok0 s = true → ∃ m e, loopRun bwrite_U0 m s = some e ∧ (bwrite_f0 bwrite_g0 s).run = some e := by
  rintro ⟨⟨⟨⟩, ⟨⟩⟩, ⟨⟨n, h0, h1, h2, h3, h4, h5, h6, h7, w, c, ⟨⟩⟩, ⟨⟩, ⟨⟩⟩⟩ _
  have := (loop_upto (T := bwrite_U0) (fun _ s => ((((), ()), (digW n s, (), ())) : bwrite_s0X)) (fun _ s => eat1 s) (fun s => (⟨(.exit 0, bwrite_e0_0), (((), ()), (digW n s, (), ()))⟩ : LEnd)) ((w.length - 1) / 128) ([h0, h1, h2, h3, h4, h5, h6, h7], c, w)
    (fun k s => s.1.length = 8 ∧ s.2.2.length + 128 * k = w.length) ⟨rfl, by simp⟩ (fun k s hk hs => ⟨?_, ?_⟩) (fun s hs => ?_)).1
  · obtain ⟨m, hm⟩ := this
    exact ⟨m, _, hm, rfl⟩
  · obtain ⟨h, c, v⟩ := s
    obtain ⟨a1, a2⟩ := hs
    dsimp only at a1 a2
    have hv : 128 < v.length := by omega
    have t1 : [h.getD 0 0, h.getD 1 0, h.getD 2 0, h.getD 3 0, h.getD 4 0, h.getD 5 0, h.getD 6 0, h.getD 7 0] = h := (rfl : _ = tab h 8 0).trans (tab_eq a1)
    have t2 : tab (v.take 128) 128 0 = v.take 128 := tab_eq (by simp; omega)
    have t3 : (v.take 128).length = 128 := by simp; omega
    refine (OT.run_t (decide_eq_true (by dsimp only [digW]; omega))).trans ((gd_run ?_).trans ?_)
    · simp only [digW, List.drop_zero, t3, List.all_cons, List.all_nil, Bool.and_true, Bool.and_eq_true]
      exact ⟨between_of (by omega), rfl, rfl, between_of (by omega)⟩
    · simp only [OT.run_ok, digW, List.drop_zero, t1, t2]
      rfl
  · obtain ⟨h, c, v⟩ := s
    obtain ⟨a1, a2⟩ := hs
    dsimp only at a1 a2
    refine ⟨compr_length a1, ?_⟩
    simp only [eat1, List.length_drop]
    omega
  · obtain ⟨h, c, v⟩ := s
    obtain ⟨a1, a2⟩ := hs
    dsimp only at a1 a2
    exact OT.run_f (decide_eq_false (by dsimp only [digW]; omega))

/-- What is told of a digest in memory. -/
def ofDig (x : DigX) (w : List UInt8) : List UInt64 × UInt64 × List UInt8 := ([x.2.1, x.2.2.1, x.2.2.2.1, x.2.2.2.2.1, x.2.2.2.2.2.1, x.2.2.2.2.2.2.1, x.2.2.2.2.2.2.2.1, x.2.2.2.2.2.2.2.2.1], x.2.2.2.2.2.2.2.2.2.2.1, w)

def writeS (s : List UInt64 × UInt64 × List UInt8) (b : List UInt8) : List UInt64 × UInt64 × List UInt8 := eatAll (s.1, s.2.1, s.2.2 ++ b)

theorem eat_wait (s : List UInt64 × UInt64 × List UInt8) : ∀ k, (upto (fun _ s => eat1 s) s k).2.2.length ≤ s.2.2.length
  | 0 => Nat.le_refl _
  | k + 1 => by
    have := eat_wait s k
    show (List.drop 128 (upto (fun _ s => eat1 s) s k).2.2).length ≤ _
    rw [List.length_drop]
    omega

def bwrite_pre (x : bwriteX) : Bool := decide (x.2.2.1.length + x.1.2.1.length ≤ 140737488355328)
def bwrite_F (x : bwriteX) : OT bwrite_S.Y := .ok ⟨bwrite_o0, ((), (digT x.2.1.1 (writeS (ofDig x.2.1 x.2.2.1) x.1.2.1).1 (writeS (ofDig x.2.1 x.2.2.1) x.1.2.1).2.1, ((writeS (ofDig x.2.1 x.2.2.1) x.1.2.1).2.2, ())))⟩

theorem bwrite_ok : SummOk Try.prog 14 (bwrite_S.summ bwrite_pre bwrite_F) := bwrite_main bwrite_ok0 bwrite_g0 bwrite_h0 _ _ fun x oy hp ho => by
  rw [← ho]
  clear ho
  obtain ⟨⟨⟨⟩, b, ⟨⟩⟩, ⟨⟨n, h0, h1, h2, h3, h4, h5, h6, h7, ⟨⟩, c, ⟨⟩⟩, w, ⟨⟩⟩⟩ := x
  have hp' := of_decide_eq_true hp
  dsimp only at hp'
  refine (gd_run ?_).trans rfl
  simp only [List.all_cons, List.all_nil, Bool.and_true, Bool.and_eq_true]
  refine ⟨decide_eq_true (by omega), rfl, decide_eq_true ?_⟩
  have := eat_wait ([h0, h1, h2, h3, h4, h5, h6, h7], c, w ++ b) (((w ++ b).length - 1) / 128)
  show (eatAll ([h0, h1, h2, h3, h4, h5, h6, h7], c, w ++ b)).2.2.length ≤ _
  refine Nat.le_trans this ?_
  show (w ++ b).length ≤ _
  rw [List.length_append]
  exact hp'

theorem bwrite_known : SummOk Try.prog 14 (bwrite_S.summ bwrite_pre bwrite_F) := bwrite_ok

def E_bwrite : Env := envCons 14 (bwrite_S.summ bwrite_pre bwrite_F) E_bnew
theorem E_bwrite_ok : EnvOk Try.prog E_bwrite := envOk_cons bwrite_known E_bnew_ok
theorem E_bwrite_mono : EnvMono E_bwrite := envMono_cons fn_mono E_bnew_mono
theorem E_bwrite_any : AnyOk Try.prog te E_bwrite := any_ok follows te_ok E_bwrite_ok E_bwrite_mono

end Go.Proofs.Ytkngdfhigpjciaa

/- The function (*sigil/blake.Digest).Sum: what it makes of its arguments. No statement of a seat is proved here. -/
namespace Go.Proofs.Ytkngdfhigpjciaa
open Sx Go
set_option maxRecDepth 100000

def bsum_S : FnSpec := ⟨[.ptr 0 0 0], [(0, digC (.own 1)), (1, .row .u8)], false, 2, true⟩

abbrev bsumX : Type := ((Unit) × Unit) × (((Int) × (UInt64) × (UInt64) × (UInt64) × (UInt64) × (UInt64) × (UInt64) × (UInt64) × (UInt64) × (Unit) × (UInt64) × Unit) × (List (UInt8)) × Unit)

def bsum_s0 : Shape := ⟨51, [(5, .ptr 2 0 0), (6, .own 3), (33, .val false .int), (34, .val false .int)], [(0, .cells [.val false .int, .val false .u64, .val false .u64, .val false .u64, .val false .u64, .val false .u64, .val false .u64, .val false .u64, .val false .u64, .own 1, .val false .u64]), (1, .row .u8), (2, .row .u64), (3, .row .u8)], 2, true⟩

abbrev bsum_s0X : Type := ((Unit) × (Unit) × (Int) × (Int) × Unit) × (((Int) × (UInt64) × (UInt64) × (UInt64) × (UInt64) × (UInt64) × (UInt64) × (UInt64) × (UInt64) × (Unit) × (UInt64) × Unit) × (List (UInt8)) × (List (UInt64)) × (List (UInt8)) × Unit)

def bsum_e0_0 : Shape := ⟨51, [(6, .own 2)], [(0, .cells [.val false .int, .val false .u64, .val false .u64, .val false .u64, .val false .u64, .val false .u64, .val false .u64, .val false .u64, .val false .u64, .own 1, .val false .u64]), (1, .row .u8), (2, .row .u8)], 2, true⟩

abbrev bsum_e0_0X : Type := ((Unit) × Unit) × (((Int) × (UInt64) × (UInt64) × (UInt64) × (UInt64) × (UInt64) × (UInt64) × (UInt64) × (UInt64) × (Unit) × (UInt64) × Unit) × (List (UInt8)) × (List (UInt8)) × Unit)

def bsum_x0 : SE → Option Shape := xsMk [(0, bsum_e0_0)] none

def bsum_T0 (a33 : Int) (a34 : Int) (c0_0 : Int) (c0_1 : UInt64) (c0_2 : UInt64) (c0_3 : UInt64) (c0_4 : UInt64) (c0_5 : UInt64) (c0_6 : UInt64) (c0_7 : UInt64) (c0_8 : UInt64) (c0_10 : UInt64) (c1 : List (UInt8)) (c2 : List (UInt64)) (c3 : List (UInt8)) : OT (Sum bsum_s0X LEnd) :=
  let z0 : Int := Int.tdiv a34 (8 : Int)
  let z1 : Int := (8 : Int) * Int.tmod a34 (8 : Int)
  let z2 : Nat := List.length c3
  let z3 : Nat := Int.toNat a34
  (.br (decide (a34 < a33))
  (gd [true && inR z0, inB z0 (8 : Nat), decide (Int.toNat z0 + (0 : Nat) < List.length c2), inR z1, decide ((0 : Int) ≤ z1), inB a34 z2, decide (z3 < z2), inR (a34 + (1 : Int))] (.ok (.inl (((), ((), (a33, (a34 + (1 : Int), ())))), ((c0_0, (c0_1, (c0_2, (c0_3, (c0_4, (c0_5, (c0_6, (c0_7, (c0_8, ((), (c0_10, ()))))))))))), (c1, (c2, (List.set c3 z3 (UInt64.toUInt8 (shr64 (List.getD c2 (Int.toNat z0 + (0 : Nat)) (0 : UInt64)) z1)), ()))))))))
  (.ok (.inr ⟨(.exit 0, bsum_e0_0), (((), ()), ((c0_0, (c0_1, (c0_2, (c0_3, (c0_4, (c0_5, (c0_6, (c0_7, (c0_8, ((), (c0_10, ()))))))))))), (c1, (c3, ()))))⟩)))

def bsum_U0 (s : bsum_s0X) : OT (Sum bsum_s0X LEnd) := bsum_T0 (s.1.2.2.1) (s.1.2.2.2.1) (s.2.1.1) (s.2.1.2.1) (s.2.1.2.2.1) (s.2.1.2.2.2.1) (s.2.1.2.2.2.2.1) (s.2.1.2.2.2.2.2.1) (s.2.1.2.2.2.2.2.2.1) (s.2.1.2.2.2.2.2.2.2.1) (s.2.1.2.2.2.2.2.2.2.2.1) (s.2.1.2.2.2.2.2.2.2.2.2.2.1) (s.2.2.1) (s.2.2.2.1) (s.2.2.2.2.1)

theorem bsum_q0 (s : bsum_s0X) (Q : Sum bsum_s0X LEnd → Prop) : wps te E_bwrite lamNil 1000 (loopOf (codeOf Try.f15) 0) (bsum_s0.inj s) (stepK bsum_s0 bsum_x0 (Q : Sum bsum_s0.T LEnd → Prop)) = (bsum_U0 s).wpR Q := by kernel_rfl

def bsum_f0 (g0_0 : bsum_s0X → bsum_e0_0X) (s : bsum_s0X) : OT LEnd := (.ok ⟨(.exit 0, bsum_e0_0), g0_0 s⟩)

def bsum_o0 : OutSh := ⟨[.own 2], [(0, .cells [.val false .int, .val false .u64, .val false .u64, .val false .u64, .val false .u64, .val false .u64, .val false .u64, .val false .u64, .val false .u64, .own 1, .val false .u64]), (1, .row .u8), (2, .row .u8)], false⟩

def bsum_sel : SV → Option OutSh := fun _ => some bsum_o0

def bsum_T (ok0 : bsum_s0X → Bool) (g0_0 : bsum_s0X → bsum_e0_0X) (c0_0 : Int) (c0_1 : UInt64) (c0_2 : UInt64) (c0_3 : UInt64) (c0_4 : UInt64) (c0_5 : UInt64) (c0_6 : UInt64) (c0_7 : UInt64) (c0_8 : UInt64) (c0_10 : UInt64) (c1 : List (UInt8)) : OT bsum_S.Y :=
  let z0 : Nat := List.length c1
  let z1 : List UInt8 := List.take (128 : Nat) c1 ++ List.drop z0 (List.replicate (128 : Nat) (0 : UInt8))
  let z2 : List UInt8 := List.replicate (Int.toNat c0_0) (0 : UInt8)
  let z3 : List UInt64 := compr [c0_1, c0_2, c0_3, c0_4, c0_5, c0_6, c0_7, c0_8] (tab z1 (128 : Nat) (0 : UInt8)) (c0_10 + i2u (↑(min z0 (128 : Nat)) : Int)) true
  let z4 : (PUnit × PUnit × Int × Int × PUnit) × (Int × UInt64 × UInt64 × UInt64 × UInt64 × UInt64 × UInt64 × UInt64 × UInt64 × PUnit × UInt64 × PUnit) × List UInt8 × List UInt64 × List UInt8 × PUnit := (((), (), (↑(List.length z2) : Int), (0 : Int), ()), (c0_0, c0_1, c0_2, c0_3, c0_4, c0_5, c0_6, c0_7, c0_8, (), c0_10, ()), c1, [List.getD z3 (0 : Nat) (0 : UInt64), List.getD z3 (1 : Nat) (0 : UInt64), List.getD z3 (2 : Nat) (0 : UInt64), List.getD z3 (3 : Nat) (0 : UInt64), List.getD z3 (4 : Nat) (0 : UInt64), List.getD z3 (5 : Nat) (0 : UInt64), List.getD z3 (6 : Nat) (0 : UInt64), List.getD z3 (7 : Nat) (0 : UInt64)], z2, ())
  let z5 : (Int × UInt64 × UInt64 × UInt64 × UInt64 × UInt64 × UInt64 × UInt64 × UInt64 × PUnit × UInt64 × PUnit) × List UInt8 × List UInt8 × PUnit := (g0_0 z4).snd
  let z6 : Int × UInt64 × UInt64 × UInt64 × UInt64 × UInt64 × UInt64 × UInt64 × UInt64 × PUnit × UInt64 × PUnit := z5.fst
  let z7 : UInt64 × UInt64 × UInt64 × UInt64 × UInt64 × UInt64 × UInt64 × UInt64 × PUnit × UInt64 × PUnit := z6.snd
  let z8 : UInt64 × UInt64 × UInt64 × UInt64 × UInt64 × UInt64 × UInt64 × PUnit × UInt64 × PUnit := z7.snd
  let z9 : UInt64 × UInt64 × UInt64 × UInt64 × UInt64 × UInt64 × PUnit × UInt64 × PUnit := z8.snd
  let z10 : UInt64 × UInt64 × UInt64 × UInt64 × UInt64 × PUnit × UInt64 × PUnit := z9.snd
  let z11 : UInt64 × UInt64 × UInt64 × UInt64 × PUnit × UInt64 × PUnit := z10.snd
  let z12 : UInt64 × UInt64 × UInt64 × PUnit × UInt64 × PUnit := z11.snd
  let z13 : UInt64 × UInt64 × PUnit × UInt64 × PUnit := z12.snd
  let z14 : UInt64 × PUnit × UInt64 × PUnit := z13.snd
  let z15 : List UInt8 × List UInt8 × PUnit := z5.snd
  (gd [decide ((128 : Nat) ≤ List.length z1), decide ((0 : Int) ≤ c0_0) && decide (c0_0 ≤ c0_0) && decide (c0_0 * (1 : Int) ≤ (140737488355328 : Int)) && decide (c0_0 ≤ (140737488355328 : Int)), ok0 z4] (.ok ⟨bsum_o0, (((), ()), ((z6.fst, (z7.fst, (z8.fst, (z9.fst, (z10.fst, (z11.fst, (z12.fst, (z13.fst, (z14.fst, ((), (z14.snd.snd.fst, ()))))))))))), (z15.fst, (z15.snd.fst, ()))))⟩))

theorem bsum_q (ok0 : bsum_s0X → Bool) (g0_0 : bsum_s0X → bsum_e0_0X) (x : bsumX) (Q : bsum_S.Y → Prop) : wpf te E_bwrite (lamCons 0 (loopF bsum_s0 0 ok0 (bsum_f0 g0_0)) lamNil) 1000 Try.f15 (bsum_S.inp.inj x).tm (bsum_S.inp.inj x).hp (fnK bsum_S bsum_sel Q) (fun _ _ => False) = (bsum_T ok0 g0_0 (x.2.1.1) (x.2.1.2.1) (x.2.1.2.2.1) (x.2.1.2.2.2.1) (x.2.1.2.2.2.2.1) (x.2.1.2.2.2.2.2.1) (x.2.1.2.2.2.2.2.2.1) (x.2.1.2.2.2.2.2.2.2.1) (x.2.1.2.2.2.2.2.2.2.2.1) (x.2.1.2.2.2.2.2.2.2.2.2.2.1) (x.2.2.1)).wpR Q := by kernel_rfl

theorem bsum_main (ok0 : bsum_s0X → Bool) (g0_0 : bsum_s0X → bsum_e0_0X) (h0 : ∀ s : bsum_s0X, ok0 s = true → ∃ m e, loopRun (bsum_U0) m s = some e ∧ (bsum_f0 g0_0 s).run = some e) (pre : bsumX → Bool) (F : bsumX → OT bsum_S.Y) (hF : ∀ (x : bsumX) oy, pre x = true → (F x).run = some oy → (bsum_T ok0 g0_0 (x.2.1.1) (x.2.1.2.1) (x.2.1.2.2.1) (x.2.1.2.2.2.1) (x.2.1.2.2.2.2.1) (x.2.1.2.2.2.2.2.1) (x.2.1.2.2.2.2.2.2.1) (x.2.1.2.2.2.2.2.2.2.1) (x.2.1.2.2.2.2.2.2.2.2.1) (x.2.1.2.2.2.2.2.2.2.2.2.2.1) (x.2.2.1)).run = some oy) : SummOk Try.prog 15 (bsum_S.summ pre F) :=
  fn_tree te_ok E_bwrite_ok E_bwrite_any (f := 15) (fn := Try.f15) (c := codeOf Try.f15) (by kernel_rfl) (by kernel_rfl) (by kernel_rfl) (S := bsum_S) (k := 2) (by kernel_rfl) (fun R hR => (lamOk_cons (c := (codeOf Try.f15)) (by kernel_rfl) (id := 0) (by kernel_rfl) (loop_ok te_ok E_bwrite_ok E_bwrite_any (sh := bsum_s0) hR (xs := bsum_x0) (xsMk_small (by kernel_rfl) (by kernel_rfl) hR) xsMk_pan lamOk_nil (n := 1000) (T := bsum_U0) (fun s Q => bsum_q0 s Q) (ok := ok0) (f := bsum_f0 g0_0) h0) lamOk_nil)) (n := 1000) (sel := bsum_sel) (fun v o h => by cases h; rfl) (pre := pre) (F := F) (T := fun x => bsum_T ok0 g0_0 (x.2.1.1) (x.2.1.2.1) (x.2.1.2.2.1) (x.2.1.2.2.2.1) (x.2.1.2.2.2.2.1) (x.2.1.2.2.2.2.2.1) (x.2.1.2.2.2.2.2.2.1) (x.2.1.2.2.2.2.2.2.2.1) (x.2.1.2.2.2.2.2.2.2.2.1) (x.2.1.2.2.2.2.2.2.2.2.2.2.1) (x.2.2.1)) (fun x Q => bsum_q ok0 g0_0 x Q) hF

/-- A state's bytes, the first n. -/
def sumBytes (h : List UInt64) (n : Nat) : List UInt8 := upto (fun k o => o.set k (UInt64.toUInt8 (shr64 (h.getD (k / 8) 0) (8 * ((k % 8 : Nat) : Int))))) (List.replicate n 0) n

def bsum_ok0 (s : bsum_s0X) : Bool := decide (s.1.2.2.2.1 = 0 ∧ s.2.2.2.1.length = 8 ∧ s.1.2.2.1 ≤ 64 ∧ 0 ≤ s.1.2.2.1 ∧ s.2.2.2.2.1 = List.replicate s.1.2.2.1.toNat 0)
def bsum_g0 (s : bsum_s0X) : bsum_e0_0X := (((), ()), (s.2.1, s.2.2.1, sumBytes s.2.2.2.1 s.1.2.2.1.toNat, ()))
theorem bsum_h0 : ∀ s : bsum_s0X, bsum_ok0 s = true → ∃ m e, loopRun bsum_U0 m s = some e ∧ (bsum_f0 bsum_g0 s).run = some e := by
  rintro ⟨⟨⟨⟩, ⟨⟩, n, i, ⟨⟩⟩, ⟨d, w, h, o, ⟨⟩⟩⟩ hh
  have h' := of_decide_eq_true hh
  dsimp only at h'
  obtain ⟨rfl, hl, hn, hn0, rfl⟩ := h'
  obtain ⟨k, rfl⟩ : ∃ k : Nat, n = (k : Int) := ⟨n.toNat, by omega⟩
  have := (loop_upto (T := bsum_U0) (fun i o => ((((), (), (k : Int), (i : Int), ()), (d, w, h, o, ())) : bsum_s0X)) (fun k o => o.set k (UInt64.toUInt8 (shr64 (h.getD (k / 8) 0) (8 * ((k % 8 : Nat) : Int)))))
    (fun o => (⟨(.exit 0, bsum_e0_0), (((), ()), (d, w, o, ()))⟩ : LEnd)) k (List.replicate k 0) (fun _ o => o.length = k) (by simp) (fun i o hi ho => ⟨?_, by rw [List.length_set]; exact ho⟩) (fun o ho => ?_)).1
  · obtain ⟨m, hm⟩ := this
    exact ⟨m, _, hm, rfl⟩
  · have t1 : Int.tdiv (i : Int) 8 = ((i / 8 : Nat) : Int) := by rw [Int.tdiv_eq_ediv_of_nonneg (by omega)]; omega
    have t2 : Int.tmod (i : Int) 8 = ((i % 8 : Nat) : Int) := by rw [Int.tmod_eq_emod_of_nonneg (by omega)]; omega
    refine (OT.run_t (decide_eq_true (by dsimp only; omega))).trans ((gd_run ?_).trans ?_)
    · simp only [t1, t2, hl, ho, Int.toNat_natCast, List.all_cons, List.all_nil, Bool.and_true, Bool.and_eq_true]
      exact ⟨⟨trivial, inR_of (by omega)⟩, inB_of (by omega), decide_eq_true (by omega), inR_of (by omega), decide_eq_true (by omega), inB_of (by omega), decide_eq_true (by omega), inR_of (by omega)⟩
    · simp only [OT.run_ok, t1, t2, Int.toNat_natCast, Nat.add_zero]
      rfl
  · exact OT.run_f (decide_eq_false (by dsimp only; omega))

/-- What waits, with bytes 0 behind it. -/
def pad128 (w : List UInt8) : List UInt8 := w.take 128 ++ (List.replicate 128 (0 : UInt8)).drop w.length
theorem pad128_length {w : List UInt8} (h : w.length ≤ 128) : (pad128 w).length = 128 := by
  simp only [pad128, List.length_append, List.length_take, List.length_drop, List.length_replicate]
  omega

/-- The digest of what was written. -/
def sumS (n : Int) (s : List UInt64 × UInt64 × List UInt8) : List UInt8 := sumBytes (compr s.1 (pad128 s.2.2) (s.2.1 + i2u (s.2.2.length : Int)) true) n.toNat

theorem bsum_ok0_of {n : Int} {d : DigX} {w : List UInt8} {h : List UInt64} (hh : h.length = 8) (hn0 : 0 ≤ n) (hn : n ≤ 64) : bsum_ok0 (((), (), n, 0, ()), (d, w, h, List.replicate n.toNat 0, ())) = true := decide_eq_true ⟨rfl, hh, hn, hn0, rfl⟩

def bsum_pre (x : bsumX) : Bool := decide (0 ≤ x.2.1.1 ∧ x.2.1.1 ≤ 64 ∧ x.2.2.1.length ≤ 128)
def bsum_F (x : bsumX) : OT bsum_S.Y := .ok ⟨bsum_o0, (((), ()), (x.2.1, (x.2.2.1, (sumS x.2.1.1 (ofDig x.2.1 x.2.2.1), ()))))⟩

theorem bsum_ok : SummOk Try.prog 15 (bsum_S.summ bsum_pre bsum_F) := bsum_main bsum_ok0 bsum_g0 bsum_h0 _ _ fun x oy hp ho => by
  rw [← ho]
  clear ho
  obtain ⟨⟨⟨⟩, ⟨⟩⟩, ⟨⟨n, h0, h1, h2, h3, h4, h5, h6, h7, ⟨⟩, c, ⟨⟩⟩, w, ⟨⟩⟩⟩ := x
  have hp' := of_decide_eq_true hp
  dsimp only at hp'
  obtain ⟨hn0, hn, hw⟩ := hp'
  have t1 : w.take 128 ++ List.drop w.length (List.replicate 128 (0 : UInt8)) = pad128 w := rfl
  have t2 : tab (pad128 w) 128 0 = pad128 w := tab_eq (pad128_length hw)
  have t3 : min w.length 128 = w.length := by omega
  have hc : ∀ c, (compr [h0, h1, h2, h3, h4, h5, h6, h7] (pad128 w) c true).length = 8 := fun c => compr_length rfl
  have t4 : ∀ c, tab (compr [h0, h1, h2, h3, h4, h5, h6, h7] (pad128 w) c true) 8 0 = compr [h0, h1, h2, h3, h4, h5, h6, h7] (pad128 w) c true := fun c => tab_eq (hc c)
  have t5 : ((List.replicate n.toNat (0 : UInt8)).length : Int) = n := by simp; omega
  refine (gd_run ?_).trans ?_
  · simp only [t1, t2, t3, t4, t5, pad128_length hw, List.all_cons, List.all_nil, Bool.and_true, Bool.and_eq_true]
    exact ⟨rfl, ⟨⟨⟨decide_eq_true hn0, decide_eq_true (Int.le_refl _)⟩, decide_eq_true (by omega)⟩, decide_eq_true (by omega)⟩, bsum_ok0_of (hc _) hn0 hn⟩
  · simp only [t1, t2, t3, t4, t5, bsum_g0]
    rfl

theorem bsum_known : SummOk Try.prog 15 (bsum_S.summ bsum_pre bsum_F) := bsum_ok

def E_bsum : Env := envCons 15 (bsum_S.summ bsum_pre bsum_F) E_bwrite
theorem E_bsum_ok : EnvOk Try.prog E_bsum := envOk_cons bsum_known E_bwrite_ok
theorem E_bsum_mono : EnvMono E_bsum := envMono_cons fn_mono E_bwrite_mono
theorem E_bsum_any : AnyOk Try.prog te E_bsum := any_ok follows te_ok E_bsum_ok E_bsum_mono

end Go.Proofs.Ytkngdfhigpjciaa

/- The function sigil/blake.Sum: what it makes of its arguments. No statement of a seat is proved here. -/
namespace Go.Proofs.Ytkngdfhigpjciaa
open Sx Go
set_option maxRecDepth 100000

def bsumf_S : FnSpec := ⟨[.val false .str, .val false .int, .val false (.list .u8)], [], true, 0, false⟩

abbrev bsumfX : Type := ((List UInt8) × (Int) × (List (UInt8)) × Unit) × (Unit)

def bsumf_o0 : OutSh := ⟨[.own 0, .val false .int], [(0, .row .u8)], false⟩

def bsumf_sel : SV → Option OutSh := fun _ => some bsumf_o0

def bsumf_T (a0 : List UInt8) (a1 : Int) (a2 : List (UInt8)) : OT bsumf_S.Y :=
  let z0 : Int × UInt64 × UInt64 × UInt64 × UInt64 × UInt64 × UInt64 × UInt64 × UInt64 × PUnit × UInt64 × PUnit := digT a1 (newH a0 a1) (0 : UInt64)
  let z1 : Int := z0.fst
  let z2 : UInt64 × UInt64 × UInt64 × UInt64 × UInt64 × UInt64 × UInt64 × UInt64 × PUnit × UInt64 × PUnit := z0.snd
  let z3 : UInt64 × UInt64 × UInt64 × UInt64 × UInt64 × UInt64 × UInt64 × PUnit × UInt64 × PUnit := z2.snd
  let z4 : UInt64 × UInt64 × UInt64 × UInt64 × UInt64 × UInt64 × PUnit × UInt64 × PUnit := z3.snd
  let z5 : UInt64 × UInt64 × UInt64 × UInt64 × UInt64 × PUnit × UInt64 × PUnit := z4.snd
  let z6 : UInt64 × UInt64 × UInt64 × UInt64 × PUnit × UInt64 × PUnit := z5.snd
  let z7 : UInt64 × UInt64 × UInt64 × PUnit × UInt64 × PUnit := z6.snd
  let z8 : UInt64 × UInt64 × PUnit × UInt64 × PUnit := z7.snd
  let z9 : UInt64 × PUnit × UInt64 × PUnit := z8.snd
  let z10 : Int × UInt64 × UInt64 × UInt64 × UInt64 × UInt64 × UInt64 × UInt64 × UInt64 × PUnit × UInt64 × PUnit := (z1, z2.fst, z3.fst, z4.fst, z5.fst, z6.fst, z7.fst, z8.fst, z9.fst, (), z9.snd.snd.fst, ())
  let z11 : List UInt64 × UInt64 × List UInt8 := writeS (ofDig z10 []) a2
  let z12 : UInt64 × List UInt8 := z11.snd
  let z13 : Int × UInt64 × UInt64 × UInt64 × UInt64 × UInt64 × UInt64 × UInt64 × UInt64 × PUnit × UInt64 × PUnit := digT z1 z11.fst z12.fst
  let z14 : Int := z13.fst
  let z15 : UInt64 × UInt64 × UInt64 × UInt64 × UInt64 × UInt64 × UInt64 × UInt64 × PUnit × UInt64 × PUnit := z13.snd
  let z16 : UInt64 × UInt64 × UInt64 × UInt64 × UInt64 × UInt64 × UInt64 × PUnit × UInt64 × PUnit := z15.snd
  let z17 : UInt64 × UInt64 × UInt64 × UInt64 × UInt64 × UInt64 × PUnit × UInt64 × PUnit := z16.snd
  let z18 : UInt64 × UInt64 × UInt64 × UInt64 × UInt64 × PUnit × UInt64 × PUnit := z17.snd
  let z19 : UInt64 × UInt64 × UInt64 × UInt64 × PUnit × UInt64 × PUnit := z18.snd
  let z20 : UInt64 × UInt64 × UInt64 × PUnit × UInt64 × PUnit := z19.snd
  let z21 : UInt64 × UInt64 × PUnit × UInt64 × PUnit := z20.snd
  let z22 : UInt64 × PUnit × UInt64 × PUnit := z21.snd
  let z23 : Int × UInt64 × UInt64 × UInt64 × UInt64 × UInt64 × UInt64 × UInt64 × UInt64 × PUnit × UInt64 × PUnit := (z14, z15.fst, z16.fst, z17.fst, z18.fst, z19.fst, z20.fst, z21.fst, z22.fst, (), z22.snd.snd.fst, ())
  let z24 : List UInt8 := z12.snd
  (.br (badKey a0 a1)
  (.ok ⟨bsumf_o0, (((), ((30 : Int), ())), ([], ()))⟩)
  (gd [bwrite_pre (((), a2, ()), z10, [], ()), bsum_pre (((), ()), z23, z24, ())] (.ok ⟨bsumf_o0, (((), ((0 : Int), ())), (sumS z14 (ofDig z23 z24), ()))⟩)))

theorem bsumf_q (x : bsumfX) (Q : bsumf_S.Y → Prop) : wpf te E_bsum lamNil 1000 Try.f9 (bsumf_S.inp.inj x).tm (bsumf_S.inp.inj x).hp (fnK bsumf_S bsumf_sel Q) (fun _ _ => False) = (bsumf_T (x.1.1) (x.1.2.1) (x.1.2.2.1)).wpR Q := by kernel_rfl

theorem bsumf_main (pre : bsumfX → Bool) (F : bsumfX → OT bsumf_S.Y) (hF : ∀ (x : bsumfX) oy, pre x = true → (F x).run = some oy → (bsumf_T (x.1.1) (x.1.2.1) (x.1.2.2.1)).run = some oy) : SummOk Try.prog 9 (bsumf_S.summ pre F) :=
  fn_tree te_ok E_bsum_ok E_bsum_any (f := 9) (fn := Try.f9) (c := codeOf Try.f9) (by kernel_rfl) (by kernel_rfl) (by kernel_rfl) (S := bsumf_S) (k := 0) (by kernel_rfl) (fun R hR => lamOk_nil) (n := 1000) (sel := bsumf_sel) (fun v o h => by cases h; rfl) (pre := pre) (F := F) (T := fun x => bsumf_T (x.1.1) (x.1.2.1) (x.1.2.2.1)) (fun x Q => bsumf_q x Q) hF

theorem ofDig_digT {n : Int} {h : List UInt64} {c : UInt64} {w : List UInt8} (hh : h.length = 8) : ofDig (digT n h c) w = (h, c, w) := by
  have : [h.getD 0 0, h.getD 1 0, h.getD 2 0, h.getD 3 0, h.getD 4 0, h.getD 5 0, h.getD 6 0, h.getD 7 0] = h := (rfl : _ = tab h 8 0).trans (tab_eq hh)
  simp only [ofDig, digT, this]

theorem eat_h (s : List UInt64 × UInt64 × List UInt8) (hs : s.1.length = 8) : ∀ k, (upto (fun _ s => eat1 s) s k).1.length = 8
  | 0 => hs
  | k + 1 => compr_length (eat_h s hs k)

theorem eat_len (s : List UInt64 × UInt64 × List UInt8) : ∀ k, (upto (fun _ s => eat1 s) s k).2.2.length = s.2.2.length - 128 * k
  | 0 => rfl
  | k + 1 => by
    have := eat_len s k
    show (List.drop 128 (upto (fun _ s => eat1 s) s k).2.2).length = _
    rw [List.length_drop, this]
    omega

theorem eatAll_h (s : List UInt64 × UInt64 × List UInt8) (hs : s.1.length = 8) : (eatAll s).1.length = 8 := eat_h s hs _
theorem eatAll_len (s : List UInt64 × UInt64 × List UInt8) : (eatAll s).2.2.length ≤ 128 := by
  unfold eatAll
  rw [eat_len]
  omega

/-- The digest of bytes. -/
def blakeOf (p : List UInt8) (n : Int) (b : List UInt8) : List UInt8 := sumS n (writeS (newH p n, 0, []) b)

def bsumf_pre (x : bsumfX) : Bool := decide (x.1.2.2.1.length ≤ 140737488355328)
def bsumf_F (x : bsumfX) : OT bsumf_S.Y := .br (badKey x.1.1 x.1.2.1) (.ok ⟨bsumf_o0, (((), ((30 : Int), ())), ([], ()))⟩) (.ok ⟨bsumf_o0, (((), ((0 : Int), ())), (blakeOf x.1.1 x.1.2.1 x.1.2.2.1, ()))⟩)

theorem newH_length (p : List UInt8) (n : Int) : (newH p n).length = 8 := rfl

theorem bsumf_ok : SummOk Try.prog 9 (bsumf_S.summ bsumf_pre bsumf_F) := bsumf_main _ _ fun x oy hp ho => by
  rw [← ho]
  clear ho
  obtain ⟨⟨p, n, b, ⟨⟩⟩, ⟨⟩⟩ := x
  have hp' := of_decide_eq_true hp
  dsimp only at hp'
  cases hk : badKey p n
  · refine (OT.run_f hk).trans ?_
    have e1 : ofDig (digT n (newH p n) 0) [] = (newH p n, 0, []) := ofDig_digT rfl
    have e2 : ∀ c w, ofDig (digT n (writeS (newH p n, 0, []) b).1 c) w = ((writeS (newH p n, 0, []) b).1, c, w) := fun c w => ofDig_digT (eatAll_h _ rfl)
    have hn : 0 ≤ n ∧ n ≤ 64 := by
      simp only [badKey, Bool.or_eq_false_iff, decide_eq_false_iff_not] at hk
      omega
    refine (gd_run ?_).trans ?_
    · simp only [List.all_cons, List.all_nil, Bool.and_true, Bool.and_eq_true]
      refine ⟨decide_eq_true (by simp only [List.length_nil]; omega), decide_eq_true ⟨hn.1, hn.2, ?_⟩⟩
      exact eatAll_len _
    · have key : sumS n (ofDig (digT n (writeS (ofDig (digT n (newH p n) 0) []) b).1 (writeS (ofDig (digT n (newH p n) 0) []) b).2.1) (writeS (ofDig (digT n (newH p n) 0) []) b).2.2) = blakeOf p n b := by
        rw [e1, e2]
        rfl
      simp only [bsumf_F, hk]
      exact congrArg (fun l => some (⟨bsumf_o0, (((), ((0 : Int), ())), (l, ()))⟩ : bsumf_S.Y)) key
  · refine (OT.run_t hk).trans ?_
    simp only [bsumf_F, hk]
    rfl

theorem bsumf_known : SummOk Try.prog 9 (bsumf_S.summ bsumf_pre bsumf_F) := bsumf_ok

def E_bsumf : Env := envCons 9 (bsumf_S.summ bsumf_pre bsumf_F) E_bsum
theorem E_bsumf_ok : EnvOk Try.prog E_bsumf := envOk_cons bsumf_known E_bsum_ok
theorem E_bsumf_mono : EnvMono E_bsumf := envMono_cons fn_mono E_bsum_mono
theorem E_bsumf_any : AnyOk Try.prog te E_bsumf := any_ok follows te_ok E_bsumf_ok E_bsumf_mono

end Go.Proofs.Ytkngdfhigpjciaa

/- The function sigil/sigilref00.CopyBytes: what it makes of its arguments. No statement of a seat is proved here. -/
namespace Go.Proofs.Ytkngdfhigpjciaa
open Sx Go
set_option maxRecDepth 100000

def ucopy_S : FnSpec := ⟨[.val false (.list .u8)], [], true, 0, false⟩

abbrev ucopyX : Type := ((List (UInt8)) × Unit) × (Unit)

def ucopy_o0 : OutSh := ⟨[.own 0], [(0, .row .u8)], false⟩

def ucopy_sel : SV → Option OutSh := fun _ => some ucopy_o0

def ucopy_T (a0 : List (UInt8)) : OT ucopy_S.Y :=
  (gd [decide (((0 : Nat) + List.length a0) * (1 : Nat) ≤ (140737488355328 : Nat))] (.ok ⟨ucopy_o0, (((), ()), ([] ++ a0, ()))⟩))

theorem ucopy_q (x : ucopyX) (Q : ucopy_S.Y → Prop) : wpf te E_bsumf lamNil 1000 Try.f13 (ucopy_S.inp.inj x).tm (ucopy_S.inp.inj x).hp (fnK ucopy_S ucopy_sel Q) (fun _ _ => False) = (ucopy_T (x.1.1)).wpR Q := by kernel_rfl

theorem ucopy_main (pre : ucopyX → Bool) (F : ucopyX → OT ucopy_S.Y) (hF : ∀ (x : ucopyX) oy, pre x = true → (F x).run = some oy → (ucopy_T (x.1.1)).run = some oy) : SummOk Try.prog 13 (ucopy_S.summ pre F) :=
  fn_tree te_ok E_bsumf_ok E_bsumf_any (f := 13) (fn := Try.f13) (c := codeOf Try.f13) (by kernel_rfl) (by kernel_rfl) (by kernel_rfl) (S := ucopy_S) (k := 0) (by kernel_rfl) (fun R hR => lamOk_nil) (n := 1000) (sel := ucopy_sel) (fun v o h => by cases h; rfl) (pre := pre) (F := F) (T := fun x => ucopy_T (x.1.1)) (fun x Q => ucopy_q x Q) hF

def ucopy_pre (x : ucopyX) : Bool := decide (x.1.1.length ≤ 140737488355328)
def ucopy_F (x : ucopyX) : OT ucopy_S.Y := .ok ⟨ucopy_o0, (((), ()), (x.1.1, ()))⟩
theorem ucopy_ok : SummOk Try.prog 13 (ucopy_S.summ ucopy_pre ucopy_F) := ucopy_main _ _ fun x oy hp ho => by
  rw [← ho]
  have hp' : x.1.1.length ≤ 140737488355328 := of_decide_eq_true hp
  refine (gd_run ?_).trans rfl
  simp only [List.all_cons, List.all_nil, Bool.and_true]
  exact decide_eq_true (by omega)

theorem ucopy_known : SummOk Try.prog 13 (ucopy_S.summ ucopy_pre ucopy_F) := ucopy_ok

def E_ucopy : Env := envCons 13 (ucopy_S.summ ucopy_pre ucopy_F) E_bsumf
theorem E_ucopy_ok : EnvOk Try.prog E_ucopy := envOk_cons ucopy_known E_bsumf_ok
theorem E_ucopy_mono : EnvMono E_ucopy := envMono_cons fn_mono E_bsumf_mono
theorem E_ucopy_any : AnyOk Try.prog te E_ucopy := any_ok follows te_ok E_ucopy_ok E_ucopy_mono

end Go.Proofs.Ytkngdfhigpjciaa

/- The function sigil/sigilref00.Spare: what it makes of its arguments. No statement of a seat is proved here. -/
namespace Go.Proofs.Ytkngdfhigpjciaa
open Sx Go
set_option maxRecDepth 100000

def uspare_S : FnSpec := ⟨[.val false (.list .u8)], [], true, 0, false⟩

abbrev uspareX : Type := ((List (UInt8)) × Unit) × (Unit)

def uspare_s0 : Shape := ⟨18, [(3, .own 0), (4, .val false .int)], [(0, .row .u8)], 0, true⟩

abbrev uspare_s0X : Type := ((Unit) × (Int) × Unit) × ((List (UInt8)) × Unit)

def uspare_e0_0 : Shape := ⟨18, [(3, .own 0)], [(0, .row .u8)], 0, true⟩

abbrev uspare_e0_0X : Type := ((Unit) × Unit) × ((List (UInt8)) × Unit)

def uspare_x0 : SE → Option Shape := xsMk [(0, uspare_e0_0)] none

def uspare_T0 (a4 : Int) (c0 : List (UInt8)) : OT (Sum uspare_s0X LEnd) :=
  (.br (decide (a4 < (8 : Int)))
  (gd [inR ((201 : Int) + a4), decide ((List.length c0 + (1 : Nat)) * (1 : Nat) ≤ (140737488355328 : Nat)), inR (a4 + (1 : Int))] (.ok (.inl (((), (a4 + (1 : Int), ())), (c0 ++ [i2b ((201 : Int) + a4)], ())))))
  (.ok (.inr ⟨(.exit 0, uspare_e0_0), (((), ()), (c0, ()))⟩)))

def uspare_U0 (s : uspare_s0X) : OT (Sum uspare_s0X LEnd) := uspare_T0 (s.1.2.1) (s.2.1)

theorem uspare_q0 (s : uspare_s0X) (Q : Sum uspare_s0X LEnd → Prop) : wps te E_ucopy lamNil 1000 (loopOf (codeOf Try.f8) 0) (uspare_s0.inj s) (stepK uspare_s0 uspare_x0 (Q : Sum uspare_s0.T LEnd → Prop)) = (uspare_U0 s).wpR Q := by kernel_rfl

def uspare_f0 (g0_0 : uspare_s0X → uspare_e0_0X) (s : uspare_s0X) : OT LEnd := (.ok ⟨(.exit 0, uspare_e0_0), g0_0 s⟩)

def uspare_o0 : OutSh := ⟨[.own 0], [(0, .row .u8)], false⟩

def uspare_sel : SV → Option OutSh := fun _ => some uspare_o0

def uspare_T (ok0 : uspare_s0X → Bool) (g0_0 : uspare_s0X → uspare_e0_0X) (a0 : List (UInt8)) : OT uspare_S.Y :=
  let z0 : (PUnit × Int × PUnit) × List UInt8 × PUnit := (((), (0 : Int), ()), a0, ())
  (gd [ucopy_pre ((a0, ()), ()), ok0 z0] (.ok ⟨uspare_o0, (((), ()), ((g0_0 z0).snd.fst, ()))⟩))

theorem uspare_q (ok0 : uspare_s0X → Bool) (g0_0 : uspare_s0X → uspare_e0_0X) (x : uspareX) (Q : uspare_S.Y → Prop) : wpf te E_ucopy (lamCons 0 (loopF uspare_s0 0 ok0 (uspare_f0 g0_0)) lamNil) 1000 Try.f8 (uspare_S.inp.inj x).tm (uspare_S.inp.inj x).hp (fnK uspare_S uspare_sel Q) (fun _ _ => False) = (uspare_T ok0 g0_0 (x.1.1)).wpR Q := by kernel_rfl

theorem uspare_main (ok0 : uspare_s0X → Bool) (g0_0 : uspare_s0X → uspare_e0_0X) (h0 : ∀ s : uspare_s0X, ok0 s = true → ∃ m e, loopRun (uspare_U0) m s = some e ∧ (uspare_f0 g0_0 s).run = some e) (pre : uspareX → Bool) (F : uspareX → OT uspare_S.Y) (hF : ∀ (x : uspareX) oy, pre x = true → (F x).run = some oy → (uspare_T ok0 g0_0 (x.1.1)).run = some oy) : SummOk Try.prog 8 (uspare_S.summ pre F) :=
  fn_tree te_ok E_ucopy_ok E_ucopy_any (f := 8) (fn := Try.f8) (c := codeOf Try.f8) (by kernel_rfl) (by kernel_rfl) (by kernel_rfl) (S := uspare_S) (k := 0) (by kernel_rfl) (fun R hR => (lamOk_cons (c := (codeOf Try.f8)) (by kernel_rfl) (id := 0) (by kernel_rfl) (loop_ok te_ok E_ucopy_ok E_ucopy_any (sh := uspare_s0) hR (xs := uspare_x0) (xsMk_small (by kernel_rfl) (by kernel_rfl) hR) xsMk_pan lamOk_nil (n := 1000) (T := uspare_U0) (fun s Q => uspare_q0 s Q) (ok := ok0) (f := uspare_f0 g0_0) h0) lamOk_nil)) (n := 1000) (sel := uspare_sel) (fun v o h => by cases h; rfl) (pre := pre) (F := F) (T := fun x => uspare_T ok0 g0_0 (x.1.1)) (fun x Q => uspare_q ok0 g0_0 x Q) hF

/-- Bytes with eight marks behind them. -/
def spareOf (b : List UInt8) : List UInt8 := upto (fun k l => l ++ [i2b (201 + (k : Int))]) b 8

def uspare_ok0 (s : uspare_s0X) : Bool := decide (s.1.2.1 = 0 ∧ s.2.1.length ≤ 140737488355320)
def uspare_g0 (s : uspare_s0X) : uspare_e0_0X := (((), ()), (spareOf s.2.1, ()))
theorem uspare_h0 : ∀ s : uspare_s0X, uspare_ok0 s = true → ∃ m e, loopRun uspare_U0 m s = some e ∧ (uspare_f0 uspare_g0 s).run = some e := by
  rintro ⟨⟨⟨⟩, i, ⟨⟩⟩, ⟨b, ⟨⟩⟩⟩ h
  have h' := of_decide_eq_true h
  dsimp only at h'
  obtain ⟨rfl, hl⟩ := h'
  have := (loop_upto (T := uspare_U0) (fun i l => ((((), (i : Int), ()), (l, ())) : uspare_s0X)) (fun k l => l ++ [i2b (201 + (k : Int))])
    (fun l => (⟨(.exit 0, uspare_e0_0), (((), ()), (l, ()))⟩ : LEnd)) 8 b (fun k l => l.length = b.length + k) rfl (fun i l hi hl' => ⟨?_, by simp [hl']; omega⟩) (fun l hl' => ?_)).1
  · obtain ⟨m, hm⟩ := this
    exact ⟨m, _, hm, rfl⟩
  · refine (OT.run_t (decide_eq_true (by dsimp only; omega))).trans ((gd_run ?_).trans rfl)
    simp only [hl', List.all_cons, List.all_nil, Bool.and_true, Bool.and_eq_true]
    exact ⟨inR_of (by omega), decide_eq_true (by omega), inR_of (by omega)⟩
  · exact OT.run_f (decide_eq_false (by dsimp only; omega))

def uspare_pre (x : uspareX) : Bool := decide (x.1.1.length ≤ 140737488355320)
def uspare_F (x : uspareX) : OT uspare_S.Y := .ok ⟨uspare_o0, (((), ()), (spareOf x.1.1, ()))⟩
theorem uspare_ok : SummOk Try.prog 8 (uspare_S.summ uspare_pre uspare_F) := uspare_main uspare_ok0 uspare_g0 uspare_h0 _ _ fun x oy hp ho => by
  rw [← ho]
  have hp' : x.1.1.length ≤ 140737488355320 := of_decide_eq_true hp
  refine (gd_run ?_).trans rfl
  simp only [List.all_cons, List.all_nil, Bool.and_true, Bool.and_eq_true]
  exact ⟨decide_eq_true (show x.1.1.length ≤ 140737488355328 by omega), decide_eq_true ⟨rfl, hp'⟩⟩

theorem uspare_known : SummOk Try.prog 8 (uspare_S.summ uspare_pre uspare_F) := uspare_ok

def E_uspare : Env := envCons 8 (uspare_S.summ uspare_pre uspare_F) E_ucopy
theorem E_uspare_ok : EnvOk Try.prog E_uspare := envOk_cons uspare_known E_ucopy_ok
theorem E_uspare_mono : EnvMono E_uspare := envMono_cons fn_mono E_ucopy_mono
theorem E_uspare_any : AnyOk Try.prog te E_uspare := any_ok follows te_ok E_uspare_ok E_uspare_mono

end Go.Proofs.Ytkngdfhigpjciaa
