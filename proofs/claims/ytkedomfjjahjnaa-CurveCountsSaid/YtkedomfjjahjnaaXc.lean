/- A symbolic machine for Go code over plain data, and functions of the program as it shows them. No statement is proved in this file. -/
import Derived.ProofKit
import Derived.Below
import Derived.OpenShut
import Derived.SizedLaws
import Derived.WalkKit
import Derived.ChangeOld
import Derived.Test.YtkedomfjjahjnaaProg
import Derived.KernelRfl
import Derived.Laws.Externs
import Derived.Lib.Mul64
import Derived.Test.YtkedomfjjahjnaaXb
set_option linter.unusedSimpArgs false
set_option linter.unusedVariables false
set_option linter.unusedSectionVars false

namespace Go.Proofs.Ytkedomfjjahjnaa
namespace Sx
open Go
theorem OT.run_bind {α β : Type} {f : α → OT β} : ∀ {t : OT α} {b : β}, (t.bind f).run = some b → ∃ a, t.run = some a ∧ (f a).run = some b
  | .ok a, b, h => ⟨a, rfl, h⟩
  | .br c x y, b, h => by
    cases c
    · exact OT.run_bind (t := y) h
    · exact OT.run_bind (t := x) h
  | .fail, b, h => by cases h
theorem putHp_mem {m : Nat} : ∀ (u : List (Nat × Ch)) {hp : Hp}, m ∈ namesOf u → ∃ ch, (m, ch) ∈ u ∧ putHp hp u m = some ch
  | [], _, h => by simp [namesOf] at h
  | (c, ch) :: r, hp, h => by
    by_cases h2 : m ∈ namesOf r
    · obtain ⟨ch', h3, h4⟩ := putHp_mem r (hp := fun n => if n = c then some ch else hp n) h2
      exact ⟨ch', by simp [h3], h4⟩
    · have h1 : m = c := by
        simp only [namesOf, List.map_cons, List.mem_cons] at h
        exact h.resolve_right h2
      subst h1
      refine ⟨ch, by simp, ?_⟩
      simp only [putHp]
      rw [putHp_not r h2]
      simp
theorem updIn_mem {ν : Nm} {bd : Bd} {ok : Nat → Bool} {hp : Hp} : ∀ {l : List (Nat × CSh)} {x : CShT l} {c : Nat} {ch : Ch}, prjChunks bd ok hp l = some x → (c, ch) ∈ updIn ν l x →
    ∃ n s y, (n, s) ∈ l ∧ c = (ν n).1 ∧ prjOld bd ok hp n s = some y ∧ ch = ⟨(ν n).2, injChunkN ν s y⟩
  | [], _, _, _, _, h => by cases h
  | q :: r, x, c, ch, hp, h => by
    obtain ⟨h1, h2⟩ := pPair_some hp
    simp only [updIn, List.mem_cons] at h
    rcases h with h | h
    · cases h
      exact ⟨q.1, q.2, x.1, by simp, rfl, h1, rfl⟩
    · obtain ⟨n, s, y, k1, k2⟩ := updIn_mem h2 h
      exact ⟨n, s, y, by simp [k1], k2⟩
theorem updIn_names {ν : Nm} : ∀ {l : List (Nat × CSh)} {x : CShT l} {c : Nat}, c ∈ namesOf (updIn ν l x) ↔ ∃ n s, (n, s) ∈ l ∧ c = (ν n).1
  | [], _, _ => by simp [updIn, namesOf]
  | q :: r, x, c => by
    have ih := updIn_names (ν := ν) (l := r) (x := x.2) (c := c)
    unfold namesOf at ih ⊢
    simp only [updIn, List.map_cons, List.mem_cons]
    constructor
    · rintro (h | h)
      · exact ⟨q.1, q.2, .inl rfl, h⟩
      · obtain ⟨n, s, h1, h2⟩ := ih.1 h
        exact ⟨n, s, .inr h1, h2⟩
    · rintro ⟨n, s, h1 | h1, h2⟩
      · left; rw [← h1] at *; exact h2
      · exact .inr (ih.2 ⟨n, s, h1, h2⟩)
theorem updGone_mem {bd : Bd} {hp : Hp} {fixed : Nat} : ∀ {l : List (Nat × CSh)} {c : Nat} {ch : Ch}, (c, ch) ∈ updGone bd hp fixed l → (∃ n, bdGet bd n = some (some c) ∧ fixed ≤ n) ∧ ch = ⟨epOf hp c + 1, .row .u8 []⟩
  | [], _, _, h => by cases h
  | q :: r, c, ch, h => by
    simp only [updGone] at h
    cases hb : Nat.blt q.1 fixed
    · rw [hb] at h
      simp only [cond_false] at h
      split at h
      · rename_i o ho
        simp only [List.mem_cons] at h
        rcases h with h | h
        · cases h
          have : ¬ q.1 < fixed := fun hlt => by rw [blt_to hlt] at hb; cases hb
          exact ⟨⟨q.1, ho, by omega⟩, rfl⟩
        · exact updGone_mem h
      · exact updGone_mem h
    · rw [hb] at h
      exact updGone_mem (by simpa using h)
theorem updGone_has {bd : Bd} {hp : Hp} {fixed : Nat} : ∀ {l : List (Nat × CSh)} {n c : Nat} {s : CSh}, (n, s) ∈ l → bdGet bd n = some (some c) → fixed ≤ n → c ∈ namesOf (updGone bd hp fixed l)
  | [], _, _, _, h, _, _ => by cases h
  | q :: r, n, c, s, h, hb, hn => by
    simp only [updGone]
    rcases List.mem_cons.1 h with h | h
    · subst h
      have : Nat.blt n fixed = false := by
        cases hq : Nat.blt n fixed
        · rfl
        · have := blt_of hq; omega
      unfold namesOf
      simp only [this, cond_false, hb, List.map_cons, List.mem_cons]
      exact .inl trivial
    · have ih := updGone_has (hp := hp) h hb hn
      cases Nat.blt q.1 fixed
      · simp only [cond_false]
        split
        · unfold namesOf at ih ⊢
          simp only [List.map_cons, List.mem_cons]
          exact .inr ih
        · exact ih
      · exact ih
theorem putHp_append : ∀ (u v : List (Nat × Ch)) {hp : Hp}, putHp hp (u ++ v) = putHp (putHp hp u) v
  | [], _, _ => rfl
  | (c, ch) :: r, v, hp => putHp_append r v
theorem mem_names {u : List (Nat × Ch)} {c : Nat} {ch : Ch} (h : (c, ch) ∈ u) : c ∈ namesOf u := List.mem_map.2 ⟨_, h, rfl⟩
theorem distinct_unique : ∀ {l : List (Nat × CSh)}, distinct (l.map (·.1)) = true → ∀ {n : Nat} {s s' : CSh}, (n, s) ∈ l → (n, s') ∈ l → s = s'
  | [], _, _, _, _, h, _ => by cases h
  | q :: r, hd, n, s, s', h, h' => by
    simp only [List.map_cons, distinct, Bool.and_eq_true, Bool.not_eq_true'] at hd
    have no : ∀ s, (n, s) ∈ r → q.1 ≠ n := fun s hs e => by
      have := hd.1
      rw [List.any_eq_false] at this
      exact this n (List.mem_map.2 ⟨_, hs, rfl⟩) (by rw [e]; exact Nat.beq_refl n)
    rcases List.mem_cons.1 h with h | h <;> rcases List.mem_cons.1 h' with h' | h'
    · rw [← h'] at h; cases h; rfl
    · exact absurd (by rw [← h]) (no s' h')
    · exact absurd (by rw [← h']) (no s h)
    · exact distinct_unique hd.2 h h'
theorem injCellsN_length {ν : Nm} : ∀ {l : List Sh} {x : ShT l}, (injCellsN ν l x).length = (injCells l x).length
  | [], _ => rfl
  | s :: r, x => by simp only [injCellsN, injCells, List.length_append, injOneN_length, injCellsN_length]
theorem injChunkN_shape {ν : Nm} {s : CSh} {y : s.T} : (injChunkN ν s y).shape = (injChunk s y).shape := by
  cases s <;> simp only [injChunkN, injChunk, Chunk.shape]
  case cells l =>
    have := injCellsN_length (ν := ν) (l := l) (x := y)
    rw [this]
theorem injChunkN_mut {ν : Nm} {s : CSh} {y : s.T} : (injChunkN ν s y).mut = (injChunk s y).mut := by
  cases s <;> rfl
theorem injChunk_mut {s : CSh} {y : s.T} : (injChunk s y).mut = !s.isFrz := by
  cases s <;> rfl
end Sx
end Go.Proofs.Ytkedomfjjahjnaa

namespace Go.Proofs.Ytkedomfjjahjnaa
namespace Sx
open Go
section
variable {R : Ctx} {w w' : World} {S : FnSpec} {args : List SV} {bd : Bd} {xc : CShT S.chunks} {N N2 : Ctx} {o : OutSh} {yc : CShT o.chunks} {base : Nat}
def Ctx.upTo (N : Ctx) (k : Nat) : Ctx := { N with hp := fun n => cond (Nat.blt n k) (N.hp n) none }
structure CallEnd (R : Ctx) (w w' : World) (S : FnSpec) (args : List SV) (bd : Bd) (xc : CShT S.chunks) (N2 : Ctx) (o : OutSh) (yc : CShT o.chunks) (base : Nat) : Prop where
  hm : HpOk R w
  ok : S.inp.bdOk ⟨args, R.hp⟩ bd = true
  hx : prjChunks bd (freeOf S.borrow bd) R.hp S.chunks = some xc
  ext : ((R.named (R.insF bd S.borrow w) (R.insU bd S.borrow w) bd (injHp S.chunks xc)).upTo S.fixed).Ext N2
  hm2 : HpOk N2 w'
  hp2 : N2.hp = injHp o.chunks yc
  prj2 : ∃ bd2 ok2 hp2, prjChunks bd2 ok2 hp2 o.chunks = some yc
  dist2 : distinct (o.chunks.map (·.1)) = true
  endOk : S.endOk bd R.hp base o = true
open Classical in
noncomputable def Ctx.afterF (R : Ctx) (bd : Bd) (w : World) (N2 : Ctx) : Nat → Option Obj := fun b =>
  if b < w.heap.size ∧ ¬ R.bound bd b then R.F b else N2.F b
open Classical in
noncomputable def Ctx.afterCall (R : Ctx) (bd : Bd) (w : World) (S : FnSpec) (N2 : Ctx) (o : OutSh) (yc : CShT o.chunks) (base : Nat) : Ctx :=
  ⟨R.afterF bd w N2, R.U, fun c => match o.chunks.find? (fun q => Nat.beq (S.nm bd R.hp base q.1).1 c) with
    | some q => N2.σ q.1
    | none => if c ∈ namesOf (updGone bd R.hp S.fixed S.chunks) then none else R.σ c,
   putHp R.hp (updGone bd R.hp S.fixed S.chunks ++ updIn (S.nm bd R.hp base) o.chunks yc)⟩
variable (H : CallEnd R w w' S args bd xc N2 o yc base)
include H
theorem CallEnd.inF : ∀ b o', R.insF bd S.borrow w b = some o' → N2.F b = some o' := fun b o' h => H.ext.F b o' h
theorem CallEnd.inU : N2.U = R.insU bd S.borrow w := H.ext.U
theorem CallEnd.old : ∀ b, b < w.heap.size → ¬ R.bound bd b → w'.heap[b]? = w.heap[b]? :=
  stays H.hm H.inF H.inU H.hm2.F H.hm2.U
theorem F_old {b : Nat} {o' : Obj} (h : R.F b = some o') : b < w.heap.size ∧ ¬ R.bound bd b :=
  ⟨(Array.getElem?_eq_some_iff.1 (H.hm.F b o' h)).1, fun hb => by rw [(bound_F H.hm hb).1] at h; cases h⟩
theorem afterF_F : ∀ b o', R.F b = some o' → R.afterF bd w N2 b = some o' := fun b o' h => by
  unfold Ctx.afterF
  rw [if_pos (F_old H h)]
  exact h
theorem afterF_heap : ∀ b o', R.afterF bd w N2 b = some o' → w'.heap[b]? = some o' := fun b o' h => by
  unfold Ctx.afterF at h
  split at h
  · rename_i hb
    rw [H.old b hb.1 hb.2]; exact H.hm.F b o' h
  · exact H.hm2.F b o' h
theorem afterF_N2 (hb : S.borrow = false) : ∀ b o', N2.F b = some o' → R.afterF bd w N2 b = some o' := fun b o' h => by
  unfold Ctx.afterF
  split
  · rename_i hq
    cases hR : R.F b with
    | some o2 =>
      have h1 := H.hm.F b o2 hR
      rw [← H.old b hq.1 hq.2, H.hm2.F b o' h] at h1
      exact h1.symm
    | none =>
      exfalso
      have h2 := H.hm2.FU b o' h
      rw [H.inU] at h2
      unfold Ctx.insU at h2
      dsimp only at h2
      rw [if_neg (by rintro (h | h | ⟨o2, h⟩); exact hq.2 h; rw [hb] at h; cases h; rw [hR] at h; cases h)] at h2
      simp [hq.1] at h2
  · exact h
theorem block_own {b : Nat} (hF : N2.F b = none) (hU : N2.U b = none) : R.F b = none ∧ R.U b = none ∧ R.afterF bd w N2 b = none ∧ (w.heap.size ≤ b ∨ R.bound bd b) := by
  by_cases hb : b < w.heap.size
  · have hs : w.heap[b]? = some w.heap[b] := by simp [hb]
    have hbd : R.bound bd b := Classical.byContradiction fun hn => by
      have h1 : R.insF bd S.borrow w b = none := by
        cases hq : R.insF bd S.borrow w b with
        | none => rfl
        | some o' => rw [H.inF b o' hq] at hF; cases hF
      rw [H.inU] at hU
      unfold Ctx.insU at hU
      dsimp only at hU
      unfold Ctx.insF at h1
      rw [if_neg hn] at h1
      by_cases hbo : S.borrow = true
      · rw [if_pos hbo, hs] at h1; cases h1
      · rw [if_neg hbo] at h1
        rw [if_neg (by rintro (h | h | ⟨o2, h⟩); exact hn h; exact hbo h; rw [h1] at h; cases h), hs] at hU
        cases hU
    refine ⟨(bound_F H.hm hbd).1, (bound_F H.hm hbd).2, ?_, .inr hbd⟩
    unfold Ctx.afterF
    rw [if_neg (fun h => h.2 hbd)]
    exact hF
  · refine ⟨?_, ?_, ?_, .inl (by omega)⟩
    · cases hR : R.F b with
      | none => rfl
      | some o' => exact absurd (F_old H hR).1 hb
    · cases hR : R.U b with
      | none => rfl
      | some o' => exact absurd (Array.getElem?_eq_some_iff.1 (H.hm.U b o' hR)).1 hb
    · unfold Ctx.afterF
      rw [if_neg (fun h => hb h.1)]
      exact hF
theorem endOk_lists : S.borrow = false ∨ (o.rs.any Sh.hasList = false ∧ ∀ q ∈ o.chunks, q.2.hasList = false ∧ (q.2.isFrz = true → q.1 < S.fixed)) := by
  have h := H.endOk
  unfold FnSpec.endOk at h
  simp only [Bool.and_eq_true] at h
  have h1 := h.1
  cases hb : S.borrow
  · exact .inl rfl
  · right
    rw [hb] at h1
    simp only [Bool.not_true, Bool.false_or, Bool.not_eq_true', Bool.or_eq_false_iff] at h1
    refine ⟨h1.1, fun q hq => ?_⟩
    have h2 := List.any_eq_false.1 h1.2 q hq
    simp only [Bool.or_eq_true, Bool.and_eq_true, Bool.not_eq_true', not_or, not_and] at h2
    refine ⟨by simpa using h2.1, fun hf => ?_⟩
    have := h2.2 hf
    exact blt_of (by simpa using this)
theorem endOk_fixed {k : Nat} (hk : k < S.fixed) : (∃ c, bdGet bd k = some (some c)) ∧ ∃ s, (k, s) ∈ o.chunks := by
  have h := H.endOk
  unfold FnSpec.endOk at h
  simp only [Bool.and_eq_true, List.all_eq_true] at h
  have h1 := h.2.1 k (by simpa using hk)
  constructor
  · have h2 := h1.1
    split at h2
    · rename_i c hc; exact ⟨c, hc⟩
    · cases h2
  · obtain ⟨q, hq, he⟩ := List.any_eq_true.1 h1.2
    have := Nat.eq_of_beq_eq_true he
    subst this
    exact ⟨q.2, hq⟩
theorem endOk_frz {q : Nat × CSh} (hq : q ∈ o.chunks) {q' : Nat × CSh} (hq' : q' ∈ S.chunks) (he : q.1 = q'.1) (hf : q.1 < S.fixed) : q.2.isFrz = q'.2.isFrz := by
  have h := H.endOk
  unfold FnSpec.endOk at h
  simp only [Bool.and_eq_true, List.all_eq_true] at h
  have h1 := h.2.2.1 q hq q' hq'
  simp only [he, Nat.beq_refl, Bool.not_true, Bool.false_or] at h1
  rw [he] at hf
  rw [blt_to hf] at h1
  simpa using h1
theorem endOk_new {q : Nat × CSh} (hq : q ∈ o.chunks) : q.2.isGone = false ∧ (q.1 < S.fixed ∨ (q.1 - S.fixed < 64 ∧ R.hp (base + (q.1 - S.fixed)) = none)) := by
  have h := H.endOk
  unfold FnSpec.endOk at h
  simp only [Bool.and_eq_true, List.all_eq_true] at h
  have h1 := h.2.2.2 q hq
  simp only [Bool.or_eq_true, Bool.and_eq_true, Bool.not_eq_true'] at h1
  refine ⟨h1.1, ?_⟩
  rcases h1.2 with h2 | h2
  · exact .inl (blt_of h2)
  · refine .inr ⟨blt_of h2.1, ?_⟩
    have := h2.2
    cases hq : R.hp (base + (q.1 - S.fixed)) with
    | none => rfl
    | some c => rw [hq] at this; cases this
end
end Sx
end Go.Proofs.Ytkedomfjjahjnaa

namespace Go.Proofs.Ytkedomfjjahjnaa
namespace Sx
open Go
section
variable {R : Ctx} {w w' : World} {S : FnSpec} {args : List SV} {bd : Bd} {xc : CShT S.chunks} {N N2 : Ctx} {o : OutSh} {yc : CShT o.chunks} {base : Nat}
variable (H : CallEnd R w w' S args bd xc N2 o yc base)
include H
theorem out_member {n : Nat} {s : CSh} (h : (n, s) ∈ o.chunks) : ∃ y : s.T, N2.hp n = some ⟨0, injChunk s y⟩ ∧ ((S.nm bd R.hp base n).1, (⟨(S.nm bd R.hp base n).2, injChunkN (S.nm bd R.hp base) s y⟩ : Ch)) ∈ updIn (S.nm bd R.hp base) o.chunks yc := by
  obtain ⟨bd2, ok2, hp2, hp⟩ := H.prj2
  obtain ⟨ch, hch⟩ := injHp_mem (x := yc) (n := n) ⟨s, h⟩
  obtain ⟨s', y, h1, h2, h3⟩ := injHp_some hp hch
  obtain rfl := distinct_unique H.dist2 h h1
  have hg := (endOk_new H h).1
  have hep : s.ep = 0 := by cases s <;> first | rfl | (cases hg; done)
  refine ⟨y, by rw [H.hp2, hch, h3, hep], ?_⟩
  have : ∀ {l : List (Nat × CSh)} {x : CShT l}, prjChunks bd2 ok2 hp2 l = some x → (n, s) ∈ l → ((S.nm bd R.hp base n).1, (⟨(S.nm bd R.hp base n).2, injChunkN (S.nm bd R.hp base) s y⟩ : Ch)) ∈ updIn (S.nm bd R.hp base) l x := by
    intro l
    induction l with
    | nil => intro x _ hm; cases hm
    | cons q r ih =>
      intro x hp hm
      obtain ⟨p1, p2⟩ := pPair_some hp
      simp only [updIn, List.mem_cons]
      rcases List.mem_cons.1 hm with he | he
      · subst he
        left
        have : x.1 = y := by
          have := p1.symm.trans h2
          exact Option.some.inj this
        rw [this]
      · exact .inr (ih p2 he)
  exact this hp h
theorem upd_member {c : Nat} {ch : Ch} (h : (c, ch) ∈ updIn (S.nm bd R.hp base) o.chunks yc) : ∃ n s, ∃ y : s.T, (n, s) ∈ o.chunks ∧ c = (S.nm bd R.hp base n).1 ∧ N2.hp n = some ⟨0, injChunk s y⟩ ∧ ch = ⟨(S.nm bd R.hp base n).2, injChunkN (S.nm bd R.hp base) s y⟩ := by
  obtain ⟨bd2, ok2, hp2, hp⟩ := H.prj2
  obtain ⟨n, s, y, h1, h2, h3, h4⟩ := updIn_mem hp h
  refine ⟨n, s, y, h1, h2, ?_, h4⟩
  obtain ⟨ch, hch⟩ := injHp_mem (x := yc) (n := n) ⟨s, h1⟩
  obtain ⟨s', y', k1, k2, k3⟩ := injHp_some hp hch
  obtain rfl := distinct_unique H.dist2 h1 k1
  have : y = y' := Option.some.inj (h3.symm.trans k2)
  subst this
  have hg := (endOk_new H h1).1
  have hep : s.ep = 0 := by cases s <;> first | rfl | (cases hg; done)
  rw [H.hp2, hch, k3, hep]
omit H in
theorem nm_lt {n : Nat} (h : n < S.fixed) : S.nm bd R.hp base n = (nameOf bd n, epOf R.hp (nameOf bd n)) := by
  unfold FnSpec.nm; rw [blt_to h]; rfl
omit H in
theorem nm_ge {n : Nat} (h : S.fixed ≤ n) : S.nm bd R.hp base n = (base + (n - S.fixed), 0) := by
  unfold FnSpec.nm
  have : Nat.blt n S.fixed = false := by
    cases hq : Nat.blt n S.fixed
    · rfl
    · have := blt_of hq; omega
  rw [this]; rfl
theorem fixed_chunk {k : Nat} (hk : k < S.fixed) : ∃ c ch, ∃ ch2 : Ch, bdGet bd k = some (some c) ∧ nameOf bd k = c ∧ R.hp c = some ch ∧ epOf R.hp c = ch.ep ∧ N2.hp k = some ch2 ∧ ch2.ep = 0 ∧ ch2.body.shape = ch.body.shape ∧ N2.σ k = R.σ c ∧
    (∃ cs, (k, cs) ∈ S.chunks ∧ (!cs.isFrz) = ch.body.mut) := by
  obtain ⟨⟨c, hb⟩, s, hs⟩ := endOk_fixed H hk
  obtain ⟨cs, y, h1, h2⟩ := bd_chunk (s := S.inp) (st := ⟨args, R.hp⟩) H.ok H.hx hb
  simp only [prjOld, hb] at h1
  split at h1
  · rename_i ch hch
    obtain ⟨y2, g1, _⟩ := out_member H hs
    obtain ⟨ch2, e1, e2, e3⟩ := H.ext.ch k ⟨0, injChunk cs y⟩ (by
      show cond (Nat.blt k S.fixed) (injHp S.chunks xc k) none = _
      rw [blt_to hk]; exact h2)
    rw [g1] at e1
    cases e1
    have e4 := e3 rfl
    refine ⟨c, ch, _, hb, by simp only [nameOf, hb], hch, by simp only [epOf, show R.hp c = some ch from hch], g1, rfl, e4.1.trans (prjChunk_shape h1), ?_, ?_⟩
    · rw [e4.2]; simp only [Ctx.upTo, Ctx.named, hb]
    · obtain ⟨s3, y3, k1, k2, k3⟩ := injHp_some H.hx h2
      simp only [prjOld, hb, show R.hp c = some ch from hch] at k2
      refine ⟨s3, k1, ?_⟩
      rw [← prjChunk_mut k2, injChunk_mut]
  · cases h1
theorem nm_inj {n m : Nat} {s s' : CSh} (hn : (n, s) ∈ o.chunks) (hm : (m, s') ∈ o.chunks) (h : (S.nm bd R.hp base n).1 = (S.nm bd R.hp base m).1) : n = m := by
  have half : ∀ {a b : Nat} {t t' : CSh}, (a, t) ∈ o.chunks → (b, t') ∈ o.chunks → a < S.fixed → S.fixed ≤ b → (S.nm bd R.hp base a).1 = (S.nm bd R.hp base b).1 → False := fun {a b t t'} h1 h2 h3 h4 h5 => by
    rw [nm_lt h3, nm_ge h4] at h5
    obtain ⟨c, ch, _, g1, g2, g3, _⟩ := fixed_chunk H h3
    rcases (endOk_new H h2).2 with hq | hq
    · have : b < S.fixed := hq
      omega
    · simp only at h5
      rw [← h5, g2, g3] at hq
      cases hq.2
  rcases Nat.lt_or_ge n S.fixed with h1 | h1 <;> rcases Nat.lt_or_ge m S.fixed with h2 | h2
  · rw [nm_lt h1, nm_lt h2] at h
    obtain ⟨c, _, _, g1, g2, _⟩ := fixed_chunk H h1
    obtain ⟨c', _, _, g1', g2', _⟩ := fixed_chunk H h2
    have hcc : c = c' := by rw [← g2, ← g2']; exact h
    have hok := H.ok
    unfold Shape.bdOk at hok
    simp only [Bool.and_eq_true, List.all_eq_true, List.any_eq_true] at hok
    obtain ⟨p, hp, hpe⟩ := hok.1.2 _ (bdGet_mem' g1)
    obtain ⟨p', hp', hpe'⟩ := hok.1.2 _ (bdGet_mem' g1')
    have e1 := Nat.eq_of_beq_eq_true hpe
    have e2 := Nat.eq_of_beq_eq_true hpe'
    have h3 := hok.1.1.2 p hp p' hp'
    rw [e1, e2] at h3
    simp only at h3
    rw [g1, g1', hcc] at h3
    simp only [Nat.beq_refl, Bool.not_true, Bool.or_false] at h3
    exact Nat.eq_of_beq_eq_true h3
  · exact (half hn hm h1 h2 h).elim
  · exact (half hm hn h2 h1 h.symm).elim
  · rw [nm_ge h1, nm_ge h2] at h
    simp only at h
    omega
theorem sigma_in {n : Nat} {s : CSh} (h : (n, s) ∈ o.chunks) : (R.afterCall bd w S N2 o yc base).σ (S.nm bd R.hp base n).1 = N2.σ n := by
  show (match o.chunks.find? (fun q => Nat.beq (S.nm bd R.hp base q.1).1 (S.nm bd R.hp base n).1) with | some q => N2.σ q.1 | none => _) = _
  cases hf : o.chunks.find? (fun q => Nat.beq (S.nm bd R.hp base q.1).1 (S.nm bd R.hp base n).1) with
  | none =>
    have := List.find?_eq_none.1 hf (n, s) h
    simp at this
  | some q =>
    have h1 := List.find?_some hf
    have h2 := List.mem_of_find?_eq_some hf
    have h3 : q.1 = n := nm_inj H (s := q.2) (s' := s) h2 h (Nat.eq_of_beq_eq_true h1)
    simp only [h3]
omit H in
theorem sigma_out {c : Nat} (h : c ∉ namesOf (updIn (S.nm bd R.hp base) o.chunks yc)) : (R.afterCall bd w S N2 o yc base).σ c = (open Classical in if c ∈ namesOf (updGone bd R.hp S.fixed S.chunks) then none else R.σ c) := by
  show (match o.chunks.find? (fun q => Nat.beq (S.nm bd R.hp base q.1).1 c) with | some q => N2.σ q.1 | none => _) = _
  cases hf : o.chunks.find? (fun q => Nat.beq (S.nm bd R.hp base q.1).1 c) with
  | none => rfl
  | some q =>
    exfalso
    have h1 := Nat.eq_of_beq_eq_true (List.find?_some (p := fun q : Nat × CSh => Nat.beq (S.nm bd R.hp base q.1).1 c) hf)
    have h2 := List.mem_of_find?_eq_some hf
    exact h (updIn_names.2 ⟨q.1, q.2, h2, h1.symm⟩)
theorem hp_cases {c : Nat} {ch : Ch} (h : (R.afterCall bd w S N2 o yc base).hp c = some ch) :
    (∃ n s, ∃ y : s.T, (n, s) ∈ o.chunks ∧ c = (S.nm bd R.hp base n).1 ∧ N2.hp n = some ⟨0, injChunk s y⟩ ∧ ch = ⟨(S.nm bd R.hp base n).2, injChunkN (S.nm bd R.hp base) s y⟩ ∧ (R.afterCall bd w S N2 o yc base).σ c = N2.σ n) ∨
    (ch = ⟨epOf R.hp c + 1, .row .u8 []⟩ ∧ (R.afterCall bd w S N2 o yc base).σ c = none) ∨
    (c ∉ namesOf (updIn (S.nm bd R.hp base) o.chunks yc) ∧ c ∉ namesOf (updGone bd R.hp S.fixed S.chunks) ∧ R.hp c = some ch ∧ (R.afterCall bd w S N2 o yc base).σ c = R.σ c) := by
  have hh : putHp (putHp R.hp (updGone bd R.hp S.fixed S.chunks)) (updIn (S.nm bd R.hp base) o.chunks yc) c = some ch := by
    rw [← putHp_append]; exact h
  by_cases h1 : c ∈ namesOf (updIn (S.nm bd R.hp base) o.chunks yc)
  · obtain ⟨ch', h2, h3⟩ := putHp_mem _ (hp := putHp R.hp (updGone bd R.hp S.fixed S.chunks)) h1
    rw [h3] at hh
    cases hh
    obtain ⟨n, s, y, k1, k2, k3, k4⟩ := upd_member H h2
    exact .inl ⟨n, s, y, k1, k2, k3, k4, by rw [k2]; exact sigma_in H k1⟩
  · rw [putHp_not _ h1] at hh
    have hs := sigma_out (w := w) (N2 := N2) h1
    by_cases h2 : c ∈ namesOf (updGone bd R.hp S.fixed S.chunks)
    · obtain ⟨ch', h3, h4⟩ := putHp_mem _ (hp := R.hp) h2
      rw [h4] at hh
      cases hh
      rw [if_pos h2] at hs
      exact .inr (.inl ⟨(updGone_mem h3).2, hs⟩)
    · rw [putHp_not _ h2] at hh
      rw [if_neg h2] at hs
      exact .inr (.inr ⟨h1, h2, hh, hs⟩)
theorem upd_unique {c : Nat} {ch ch' : Ch} (h : (c, ch) ∈ updIn (S.nm bd R.hp base) o.chunks yc) (h' : (c, ch') ∈ updIn (S.nm bd R.hp base) o.chunks yc) : ch = ch' := by
  obtain ⟨bd2, ok2, hp2, hp⟩ := H.prj2
  obtain ⟨n, s, y, a1, a2, a3, a4⟩ := updIn_mem hp h
  obtain ⟨n', s', y', b1, b2, b3, b4⟩ := updIn_mem hp h'
  have e1 := nm_inj H a1 b1 (a2.symm.trans b2)
  subst e1
  obtain rfl := distinct_unique H.dist2 a1 b1
  have e2 : y = y' := Option.some.inj (a3.symm.trans b3)
  rw [a4, b4, e2]
theorem hp_in {n : Nat} {s : CSh} (h : (n, s) ∈ o.chunks) : ∃ y : s.T, N2.hp n = some ⟨0, injChunk s y⟩ ∧ (R.afterCall bd w S N2 o yc base).hp (S.nm bd R.hp base n).1 = some ⟨(S.nm bd R.hp base n).2, injChunkN (S.nm bd R.hp base) s y⟩ := by
  obtain ⟨y, h1, h2⟩ := out_member H h
  refine ⟨y, h1, ?_⟩
  obtain ⟨ch', h3, h4⟩ := putHp_mem _ (hp := putHp R.hp (updGone bd R.hp S.fixed S.chunks)) (mem_names h2)
  have e := upd_unique H h2 h3
  rw [e, ← h4]
  show putHp R.hp (_ ++ _) _ = _
  rw [putHp_append]
theorem renames : Renames N2 (R.afterCall bd w S N2 o yc base) (S.nm bd R.hp base) (!S.borrow) := by
  refine ⟨fun n ch h => ?_, fun h b o' hb => afterF_N2 H (by simpa using h) b o' hb⟩
  rw [H.hp2] at h
  obtain ⟨bd2, ok2, hp2, hp⟩ := H.prj2
  obtain ⟨s, y, h1, _, _⟩ := injHp_some hp h
  obtain ⟨y', k1, k2⟩ := hp_in H h1
  rw [H.hp2, h] at k1
  cases k1
  exact ⟨rfl, _, k2, rfl, injChunkN_shape, sigma_in H h1⟩
theorem other_free {c : Nat} {ch : Ch} {L : Loc} (h1 : c ∉ namesOf (updIn (S.nm bd R.hp base) o.chunks yc)) (h2 : c ∉ namesOf (updGone bd R.hp S.fixed S.chunks)) (hc : R.hp c = some ch) (hm : ch.body.mut = true) (hL : R.σ c = some L) : ¬ R.bound bd L.block := by
  rintro ⟨n, c', ch', L', k1, k2, k3, k4, k5⟩
  have := H.hm.apart c' c ch' ch L' L k2 hc k3 hm k4 hL k5
  subst this
  rcases Nat.lt_or_ge n S.fixed with hn | hn
  · obtain ⟨_, s, hs⟩ := endOk_fixed H hn
    refine h1 (updIn_names.2 ⟨n, s, hs, ?_⟩)
    rw [nm_lt hn]
    simp only [nameOf, k1]
  · have hok := H.ok
    unfold Shape.bdOk at hok
    simp only [Bool.and_eq_true, List.all_eq_true, List.any_eq_true] at hok
    obtain ⟨p, hp, hpe⟩ := hok.1.2 _ (bdGet_mem' k1)
    have e1 : p.1 = n := Nat.eq_of_beq_eq_true hpe
    subst e1
    exact h2 (updGone_has (s := p.2) hp k1 hn)
end
end Sx
end Go.Proofs.Ytkedomfjjahjnaa

namespace Go.Proofs.Ytkedomfjjahjnaa
namespace Sx
open Go
theorem cells_renamed {N R : Ctx} {ν : Nm} {lists : Bool} (hr : Renames N R ν lists) : ∀ {l : List Sh} (_ : lists = true ∨ l.any Sh.hasList = false) {x : ShT l} {us : List Value}, SV.relL N (injCells l x) us → SV.relL R (injCellsN ν l x) us
  | [], _, _, _, h => h
  | s :: r, hl, x, us, h => by
    have h1 : lists = true ∨ s.hasList = false := hl.imp_right fun e => by simp only [List.any_cons, Bool.or_eq_false_iff] at e; exact e.1
    have h2 : lists = true ∨ r.any Sh.hasList = false := hl.imp_right fun e => by simp only [List.any_cons, Bool.or_eq_false_iff] at e; exact e.2
    simp only [injCells] at h
    simp only [injCellsN]
    have hlen := SV.relL_length h
    have t1 := SV.relL_take h (injOne s x.1).length
    have t2 := SV.relL_drop h (injOne s x.1).length
    rw [List.take_left] at t1
    rw [List.drop_left] at t2
    have := SV.relL_append (one_renamed hr h1 t1) (cells_renamed hr h2 t2)
    rwa [List.take_append_drop] at this
section
variable {R : Ctx} {w w' : World} {S : FnSpec} {args : List SV} {bd : Bd} {xc : CShT S.chunks} {N N2 : Ctx} {o : OutSh} {yc : CShT o.chunks} {base : Nat}
variable (H : CallEnd R w w' S args bd xc N2 o yc base)
include H
theorem call_ext : R.Ext (R.afterCall bd w S N2 o yc base) := by
  refine ⟨afterF_F H, rfl, fun c ch hc => ?_⟩
  by_cases h1 : c ∈ namesOf (updIn (S.nm bd R.hp base) o.chunks yc)
  · obtain ⟨n, s, hs, rfl⟩ := updIn_names.1 h1
    obtain ⟨y, k1, k2⟩ := hp_in H hs
    refine ⟨_, k2, ?_⟩
    rcases Nat.lt_or_ge n S.fixed with hn | hn
    · obtain ⟨c', ch', ch2, g1, g2, g3, g4, g5, g6, g7, g8, _⟩ := fixed_chunk H hn
      have hσ := sigma_in H hs
      rw [nm_lt hn] at hc hσ ⊢
      simp only [g2] at hc hσ ⊢
      rw [g3] at hc
      cases hc
      rw [k1] at g5
      cases g5
      refine ⟨by rw [g4]; exact Nat.le_refl _, fun _ => ⟨?_, ?_⟩⟩
      · simp only [injChunkN_shape]; exact g7
      · rw [hσ, g8]
    · exfalso
      rcases (endOk_new H hs).2 with hq | hq
      · have : n < S.fixed := hq
        omega
      · rw [nm_ge hn] at hc
        have h2 : R.hp (base + (n - S.fixed)) = none := hq.2
        rw [h2] at hc
        cases hc
  · by_cases h2 : c ∈ namesOf (updGone bd R.hp S.fixed S.chunks)
    · obtain ⟨ch', h3, h4⟩ := putHp_mem _ (hp := R.hp) h2
      refine ⟨ch', ?_, ?_⟩
      · show putHp R.hp (_ ++ _) c = _
        rw [putHp_append, putHp_not _ h1, h4]
      · rw [(updGone_mem h3).2]
        have : epOf R.hp c = ch.ep := by simp only [epOf, hc]
        rw [this]
        exact ⟨Nat.le_succ _, fun e => absurd e (by simp)⟩
    · refine ⟨ch, ?_, Nat.le_refl _, fun _ => ⟨rfl, ?_⟩⟩
      · show putHp R.hp (_ ++ _) c = _
        rw [putHp_append, putHp_not _ h1, putHp_not _ h2, hc]
      · rw [sigma_out h1, if_neg h2]
theorem rep_after {s : CSh} {n : Nat} (h : (n, s) ∈ o.chunks) (t : Ty) (ht : s = .row t ∨ s = .frz t) : ∀ (x : t.T) (cs : List Value), Rep N2.F t x cs → Rep (R.afterF bd w N2) t x cs := fun x cs hr => by
  rcases endOk_lists H with hb | ⟨_, hq⟩
  · exact Rep_mono (afterF_N2 H hb) _ _ _ hr
  · have := (hq _ h).1
    refine Rep_noList t ?_ x cs hr
    rcases ht with rfl | rfl <;> exact this
theorem lists_of {s : CSh} {n : Nat} (h : (n, s) ∈ o.chunks) : (!S.borrow) = true ∨ s.hasList = false := by
  rcases endOk_lists H with hb | ⟨_, hq⟩
  · exact .inl (by rw [hb]; rfl)
  · exact .inr (hq _ h).1
theorem chunk_after {n : Nat} {s : CSh} {y : s.T} (hs : (n, s) ∈ o.chunks) (hn : N2.hp n = some ⟨0, injChunk s y⟩) {e : Nat} {c : Nat} (hσ : (R.afterCall bd w S N2 o yc base).σ c = N2.σ n) (hc : c = (S.nm bd R.hp base n).1) :
    ChOk (R.afterCall bd w S N2 o yc base) w' c ⟨e, injChunkN (S.nm bd R.hp base) s y⟩ := by
  have h0 := H.hm2.ch n _ hn
  have hrep := rep_after H hs
  have hgone := (endOk_new H hs).1
  cases s with
  | row t =>
    simp only [ChOk, injChunk, injChunkN] at h0 ⊢
    rw [hσ]
    refine ⟨h0.1, h0.2.1, ?_⟩
    cases hL : N2.σ n with
    | none => have := h0.2.2; rw [hL] at this; exact this
    | some L =>
      have := h0.2.2
      rw [hL] at this
      obtain ⟨c1, c2, arr, E, c3, c4, c5, c6⟩ := this
      obtain ⟨_, d2, d3, _⟩ := block_own H c1 c2
      exact ⟨d3, d2, arr, E, c3, c4, c5, fun i hi => hrep t (.inl rfl) _ _ (c6 i hi)⟩
  | frz t =>
    simp only [ChOk, injChunk, injChunkN] at h0 ⊢
    rw [hσ]
    refine ⟨h0.1, h0.2.1, ?_⟩
    cases hL : N2.σ n with
    | none => have := h0.2.2; rw [hL] at this; exact this
    | some L =>
      have := h0.2.2
      rw [hL] at this
      obtain ⟨arr, E, fz, c3, c4, c5, c6⟩ := this
      refine ⟨arr, E, fz, ?_, c4, c5, fun i hi => hrep t (.inr rfl) _ _ (c6 i hi)⟩
      show R.afterF bd w N2 L.block = _
      rcases endOk_lists H with hb | ⟨_, hq⟩
      · exact afterF_N2 H hb _ _ c3
      · have hf : n < S.fixed := (hq _ hs).2 rfl
        obtain ⟨c', ch', ch2, g1, g2, g3, g4, g5, g6, g7, g8, cs, g9, g10⟩ := fixed_chunk H hf
        have hfz := endOk_frz H hs g9 rfl hf
        have hmu : ch'.body.mut = false := by rw [← g10, ← hfz]; rfl
        obtain ⟨o', ho⟩ := (chunk_block H.hm g3 (by rw [← g8]; exact hL)).2 hmu
        have h1 := afterF_F H _ _ ho
        have h2 := afterF_heap H _ _ h1
        rw [H.hm2.F _ _ c3] at h2
        cases h2
        exact h1
  | cells l =>
    simp only [ChOk, injChunk, injChunkN] at h0 ⊢
    obtain ⟨L, h1, h2, h3, arr, E, h4, h5, h6, h7, h8⟩ := h0
    obtain ⟨_, d2, d3, _⟩ := block_own H h2 h3
    refine ⟨L, by rw [hσ]; exact h1, d3, d2, arr, E, h4, h5, h6.trans (injCellsN_length (l := l) (x := y)).symm, cells_renamed (renames H) ?_ h7, h8⟩
    exact lists_of H hs
  | gone => cases hgone
theorem call_mem : HpOk (R.afterCall bd w S N2 o yc base) w' := by
  refine ⟨afterF_heap H, fun b o' h => ?_, fun c ch hc => ?_, fun c c' ch ch' L L' h1 h2 m1 m2 s1 s2 hb => ?_, fun b o' h => ?_, by have h2 := H.hm2.env; rw [H.inU] at h2; exact h2⟩
  · have h1 := H.hm.U b o' h
    have hlt := (Array.getElem?_eq_some_iff.1 h1).1
    replace h : R.U b = some o' := h
    rw [H.old b hlt (fun hq => by rw [(bound_F H.hm hq).2] at h; cases h)]
    exact h1
  · rcases hp_cases H hc with ⟨n, s, y, k1, k2, k3, rfl, k5⟩ | ⟨rfl, k2⟩ | ⟨k1, k2, k3, k4⟩
    · exact chunk_after H k1 k3 k5 k2
    · simp only [ChOk]
      rw [k2]
      exact ⟨by decide, by simp, trivial⟩
    · have h0 := H.hm.ch c ch k3
      have hfree : ∀ L, ch.body.mut = true → R.σ c = some L → ¬ R.bound bd L.block := fun L hm hL => other_free H k1 k2 k3 hm hL
      obtain ⟨ep, body⟩ := ch
      cases body with
      | row t xs =>
        simp only [ChOk] at h0 ⊢
        rw [k4]
        refine ⟨h0.1, h0.2.1, ?_⟩
        cases hL : R.σ c with
        | none => have := h0.2.2; rw [hL] at this; exact this
        | some L =>
          have := h0.2.2
          rw [hL] at this
          obtain ⟨c1, c2, arr, E, c3, c4, c5, c6⟩ := this
          have hlt := (Array.getElem?_eq_some_iff.1 c3).1
          have hf := hfree L rfl hL
          refine ⟨?_, c2, arr, E, (H.old _ hlt hf).trans c3, c4, c5, fun i hi => Rep_mono (afterF_F H) _ _ _ (c6 i hi)⟩
          show R.afterF bd w N2 L.block = none
          unfold Ctx.afterF
          rw [if_pos ⟨hlt, hf⟩]
          exact c1
      | frz t xs =>
        simp only [ChOk] at h0 ⊢
        rw [k4]
        refine ⟨h0.1, h0.2.1, ?_⟩
        cases hL : R.σ c with
        | none => have := h0.2.2; rw [hL] at this; exact this
        | some L =>
          have := h0.2.2
          rw [hL] at this
          obtain ⟨arr, E, fz, c3, c4, c5, c6⟩ := this
          exact ⟨arr, E, fz, afterF_F H _ _ c3, c4, c5, fun i hi => Rep_mono (afterF_F H) _ _ _ (c6 i hi)⟩
      | cells vs =>
        simp only [ChOk] at h0 ⊢
        obtain ⟨L, hL, c1, c2, arr, E, c3, c4, c5, c6, c7⟩ := h0
        have hlt := (Array.getElem?_eq_some_iff.1 c3).1
        have hf := hfree L rfl hL
        refine ⟨L, k4.trans hL, ?_, c2, arr, E, (H.old _ hlt hf).trans c3, c4, c5, SV.relL_ext (call_ext H) _ _ c6, c7⟩
        show R.afterF bd w N2 L.block = none
        unfold Ctx.afterF
        rw [if_pos ⟨hlt, hf⟩]
        exact c1
  · have inn : ∀ (n : Nat) (s : CSh) (y : s.T) (L : Loc), N2.hp n = some ⟨0, injChunk s y⟩ → (injChunk s y).mut = true → N2.σ n = some L → w.heap.size ≤ L.block ∨ R.bound bd L.block := fun n s y L a1 a2 a3 => by
      have := (chunk_block H.hm2 a1 a3).1 a2
      exact (block_own H this.1 this.2).2.2.2
    have out : ∀ (c : Nat) (ch : Ch) (L : Loc), c ∉ namesOf (updIn (S.nm bd R.hp base) o.chunks yc) → c ∉ namesOf (updGone bd R.hp S.fixed S.chunks) → R.hp c = some ch → ch.body.mut = true → R.σ c = some L → L.block < w.heap.size ∧ ¬ R.bound bd L.block := fun c ch L a1 a2 a3 a4 a5 => by
      refine ⟨?_, other_free H a1 a2 a3 a4 a5⟩
      have h0 := H.hm.ch c ch a3
      obtain ⟨ep, body⟩ := ch
      cases body with
      | row t xs =>
        simp only [ChOk, a5] at h0
        obtain ⟨_, _, _, _, arr, E, c3, _⟩ := h0
        exact (Array.getElem?_eq_some_iff.1 c3).1
      | frz t xs => cases a4
      | cells vs =>
        simp only [ChOk] at h0
        obtain ⟨L', hL, _, _, arr, E, c3, _⟩ := h0
        rw [a5] at hL
        cases hL
        exact (Array.getElem?_eq_some_iff.1 c3).1
    rcases hp_cases H h1 with ⟨n, s, y, k1, k2, k3, rfl, k5⟩ | ⟨rfl, k2⟩ | ⟨k1, k2, k3, k4⟩ <;>
      rcases hp_cases H h2 with ⟨n', s', y', k1', k2', k3', rfl, k5'⟩ | ⟨rfl, k2'⟩ | ⟨k1', k2', k3', k4'⟩
    · rw [k5] at s1
      rw [k5'] at s2
      have a1 : (injChunk s y).mut = true := by rw [← injChunkN_mut]; exact m1
      have a2 : (injChunk s' y').mut = true := by rw [← injChunkN_mut]; exact m2
      have := H.hm2.apart n n' _ _ L L' k3 k3' a1 a2 s1 s2 hb
      rw [k2, k2', this]
    · rw [k2'] at s2; cases s2
    · rw [k5] at s1
      rw [k4'] at s2
      have a1 : (injChunk s y).mut = true := by rw [← injChunkN_mut]; exact m1
      have h3 := inn n s y L k3 a1 s1
      have h4 := out c' ch' L' k1' k2' k3' m2 s2
      rw [hb] at h3
      rcases h3 with h3 | h3
      · omega
      · exact absurd h3 h4.2
    · rw [k2] at s1; cases s1
    · rw [k2] at s1; cases s1
    · rw [k2] at s1; cases s1
    · rw [k5'] at s2
      rw [k4] at s1
      have a1 : (injChunk s' y').mut = true := by rw [← injChunkN_mut]; exact m2
      have h3 := inn n' s' y' L' k3' a1 s2
      have h4 := out c ch L k1 k2 k3 m1 s1
      rw [← hb] at h3
      rcases h3 with h3 | h3
      · omega
      · exact absurd h3 h4.2
    · rw [k2'] at s2; cases s2
    · rw [k4] at s1
      rw [k4'] at s2
      exact H.hm.apart c c' ch ch' L L' k3 k3' m1 m2 s1 s2 hb
  · replace h : R.afterF bd w N2 b = some o' := h
    show R.U b = none
    unfold Ctx.afterF at h
    split at h
    · exact H.hm.FU b o' h
    · rename_i hq
      cases hU : R.U b with
      | none => rfl
      | some o2 =>
        have hlt := (Array.getElem?_eq_some_iff.1 (H.hm.U b o2 hU)).1
        refine absurd ⟨hlt, fun hbd => ?_⟩ hq
        rw [(bound_F H.hm hbd).2] at hU
        cases hU
theorem call_after : After R (R.afterCall bd w S N2 o yc base) w' (updGone bd R.hp S.fixed S.chunks ++ updIn (S.nm bd R.hp base) o.chunks yc) :=
  ⟨call_ext H, rfl, call_mem H⟩
end
end Sx
end Go.Proofs.Ytkedomfjjahjnaa

namespace Go.Proofs.Ytkedomfjjahjnaa
namespace Sx
open Go
theorem injSlots_length : ∀ {l : List (Nat × Sh)} {x : SlT l} {tm : List SV}, (injSlots l x tm).length = tm.length
  | [], _, _ => rfl
  | c :: r, x, tm => by simp only [injSlots, injSlots_length, List.length_set]
theorem injSlots_below : ∀ {rs : List Sh} {i j : Nat} {x : SlT (indexed j rs)} {tm : List SV}, i < j → (injSlots (indexed j rs) x tm)[i]? = tm[i]?
  | [], _, _, _, _, _ => rfl
  | s :: r, i, j, x, tm, h => by
    simp only [indexed, injSlots]
    refine (injSlots_below (rs := r) (i := i) (j := j + 1) (x := x.2) (by omega)).trans ?_
    rw [List.getElem?_set_ne (by omega)]
theorem results_renamed {N R : Ctx} {ν : Nm} {lists : Bool} (hr : Renames N R ν lists) : ∀ {rs : List Sh} (_ : lists = true ∨ rs.any Sh.hasList = false) {i : Nat} {y : SlT (indexed i rs)} {tm : List SV} {us : List Value}, tm.length = i + rs.length →
    SV.relL N (injSlots (indexed i rs) y tm) us → SV.relL R (FnSpec.emit.go ν i rs y) (us.drop i)
  | [], _, i, y, tm, us, hl, h => by
    have := SV.relL_length h
    simp only [indexed, injSlots] at this
    simp only [List.length_nil] at hl
    simp only [FnSpec.emit.go]
    rw [List.drop_eq_nil_of_le (by omega)]
    exact relL_nil
  | s :: r, hl', i, y, tm, us, hl, h => by
    have h1 : lists = true ∨ s.hasList = false := hl'.imp_right fun e => by simp only [List.any_cons, Bool.or_eq_false_iff] at e; exact e.1
    have h2 : lists = true ∨ r.any Sh.hasList = false := hl'.imp_right fun e => by simp only [List.any_cons, Bool.or_eq_false_iff] at e; exact e.2
    simp only [List.length_cons] at hl
    have hlen := SV.relL_length h
    rw [injSlots_length] at hlen
    have hi : i < us.length := by omega
    have ih := results_renamed hr h2 (i := i + 1) (y := y.2) (tm := tm.set i (injSlot s y.1)) (us := us) (by rw [List.length_set]; omega) h
    have hi2 : i < (injSlots (indexed i (s :: r)) y tm).length := by rw [injSlots_length]; omega
    have hv := SV.relL_get h i hi2 hi
    have hg : (injSlots (indexed i (s :: r)) y tm)[i] = injSlot s y.1 := by
      have : (injSlots (indexed i (s :: r)) y tm)[i]? = some (injSlot s y.1) := by
        simp only [indexed, injSlots]
        refine (injSlots_below (rs := r) (i := i) (j := i + 1) (x := y.2) (by omega)).trans ?_
        rw [List.getElem?_set_self (by omega)]
      rw [List.getElem?_eq_getElem hi2] at this
      exact Option.some.inj this
    rw [hg] at hv
    simp only [FnSpec.emit.go]
    rw [List.drop_eq_getElem_cons hi]
    simp only [SV.relL]
    exact ⟨_, _, rfl, slot_renamed hr h1 hv, ih⟩
theorem emit_length {ν : Nm} : ∀ {rs : List Sh} {i : Nat} {y : SlT (indexed i rs)}, (FnSpec.emit.go ν i rs y).length = rs.length
  | [], _, _ => rfl
  | s :: r, i, y => by simp only [FnSpec.emit.go, List.length_cons, emit_length]
theorem resL_rel {R : Ctx} {n : Nat} {x : SV} {v : Value} {l : List SV} (hv : SV.rel R x v) (hn : (resL n x).length = n) (hl : l.length = n) : ∃ us, SV.relL R (resL n x) us ∧ ∀ R', SV.relL R' l us → SV.rel R' (oneOf l) v := by
  unfold resL at hn ⊢
  cases hb : Nat.beq n 1
  · rw [hb] at hn
    simp only [cond_false] at hn ⊢
    have hne : n ≠ 1 := fun e => by subst e; cases hb
    cases x <;> simp only [List.length_replicate] at hn ⊢ <;> try omega
    case tup q =>
      simp only [SV.rel] at hv
      obtain ⟨vs, rfl, h1⟩ := hv
      refine ⟨vs, h1, fun R' h2 => ?_⟩
      cases l with
      | nil => simp only [oneOf, SV.rel]; exact ⟨vs, rfl, h2⟩
      | cons a l =>
        cases l with
        | nil => simp at hl; omega
        | cons b l => simp only [oneOf, SV.rel]; exact ⟨vs, rfl, h2⟩
  · have := Nat.eq_of_beq_eq_true hb
    subst this
    simp only [cond_true]
    refine ⟨[v], relL_single hv, fun R' h2 => ?_⟩
    cases l with
    | nil => simp at hl
    | cons a l =>
      cases l with
      | nil =>
        simp only [oneOf]
        obtain ⟨v', e, h⟩ := relL_one h2
        cases e
        exact h
      | cons b l => simp at hl
section
variable {P : Program} {te : TE} {Φ : Env} (hte : TeOk P te) (hΦ : EnvOk P Φ) (hany : AnyOk P te Φ)
theorem OutSh.shape_length {o : OutSh} {k : Nat} : (o.shape k).n = o.rs.length := rfl
theorem fn_end {R N1 : Ctx} {w w' : World} {S : FnSpec} {args : List SV} {x : S.T} {k d : Nat} (hm : HpOk R w) (hx : S.inp.prj ⟨args, R.hp⟩ = some x)
    (hk : S.chunks.all (fun c => Nat.blt c.1 k && !c.2.isGone) = true)
    (h1 : (R.named (R.insF (S.inp.bd ⟨args, R.hp⟩) S.borrow w) (R.insU (S.inp.bd ⟨args, R.hp⟩) S.borrow w) (S.inp.bd ⟨args, R.hp⟩) (injHp S.chunks x.2)).Ext N1) (hm1 : HpOk N1 w') {o : OutSh} {y : (o.shape S.fixed).T} {pan : Bool} {v : SV} {u : Value}
    (hv : SV.rel N1 v u) (hy : o.is y pan v N1.hp) (hend : S.endOk (S.inp.bd ⟨args, R.hp⟩) R.hp (fresh R.hp d) o = true) :
    ∃ R', After R R' w' (updGone (S.inp.bd ⟨args, R.hp⟩) R.hp S.fixed S.chunks ++ updIn (S.nm (S.inp.bd ⟨args, R.hp⟩) R.hp (fresh R.hp d)) o.chunks y.2) ∧
      SV.rel R' (oneOf (FnSpec.emit.indexedN (S.nm (S.inp.bd ⟨args, R.hp⟩) R.hp (fresh R.hp d)) o.rs y.1)) u := by
  obtain ⟨_, hy⟩ := hy
  unfold Shape.prj at hx
  dsimp only at hx
  generalize hbd : S.inp.bd ⟨args, R.hp⟩ = bd at *
  cases hb : S.inp.bdOk ⟨args, R.hp⟩ bd && Nat.beq args.length S.inp.n
  · rw [hb] at hx; cases hx
  · rw [hb] at hx
    rw [Bool.and_eq_true] at hb
    obtain ⟨hx1, hx2⟩ := pPair_some hx
    have hy' := hy
    unfold Shape.prj at hy'
    dsimp only at hy'
    cases hb2 : (o.shape S.fixed).bdOk ⟨resL o.rs.length v, N1.hp⟩ ((o.shape S.fixed).bd ⟨resL o.rs.length v, N1.hp⟩) && Nat.beq (resL o.rs.length v).length (o.shape S.fixed).n
    · rw [hb2] at hy'; cases hy'
    · rw [hb2] at hy'
      rw [Bool.and_eq_true] at hb2
      obtain ⟨hy1, hy2⟩ := pPair_some hy'
      have hlen : (resL o.rs.length v).length = o.rs.length := Nat.eq_of_beq_eq_true hb2.2
      obtain ⟨us, hus, hback⟩ := resL_rel (l := FnSpec.emit.indexedN (S.nm bd R.hp (fresh R.hp d)) o.rs y.1) hv hlen emit_length
      have hsm : Small ((R.named (R.insF bd S.borrow w) (R.insU bd S.borrow w) bd (injHp S.chunks x.2)).upTo S.fixed) (o.shape S.fixed).fixed := fun c ch hc => by
        replace hc : cond (Nat.blt c S.fixed) (injHp S.chunks x.2 c) none = some ch := hc
        cases hq : Nat.blt c S.fixed
        · rw [hq] at hc; cases hc
        · rw [hq] at hc
          refine ⟨blt_of hq, ?_⟩
          obtain ⟨s, y', g1, g2, g3⟩ := injHp_some hx2 (hc : injHp S.chunks x.2 c = some ch)
          have := (List.all_eq_true.1 hk) _ g1
          simp only [Bool.and_eq_true, Bool.not_eq_true'] at this
          rw [g3]
          cases s <;> first | rfl | (cases this.2; done)
      have hext : ((R.named (R.insF bd S.borrow w) (R.insU bd S.borrow w) bd (injHp S.chunks x.2)).upTo S.fixed).Ext N1 := ⟨h1.F, h1.U, fun c ch hc => by
        replace hc : cond (Nat.blt c S.fixed) (injHp S.chunks x.2 c) none = some ch := hc
        cases hq : Nat.blt c S.fixed
        · rw [hq] at hc; cases hc
        · rw [hq] at hc
          exact h1.ch c ch hc⟩
      obtain ⟨N2, g1, g2⟩ := Shape.weak (s := o.shape S.fixed) (a := { tmps := us.toArray, defers := [] }) hsm hext ⟨rfl, hm1, hus, rfl⟩ hy
      have hd2 : distinct (o.chunks.map (·.1)) = true := by
        have := hb2.1
        unfold Shape.bdOk at this
        simp only [Bool.and_eq_true] at this
        exact this.1.1.1
      have H : CallEnd R w w' S args bd x.2 N2 o y.2 (fresh R.hp d) := ⟨hm, hb.1, hx2, g1, g2.mem, g2.hp, ⟨_, _, _, hy2⟩, hd2, hend⟩
      refine ⟨R.afterCall bd w S N2 o y.2 (fresh R.hp d), call_after H, hback _ ?_⟩
      have ht := g2.tm
      have := results_renamed (renames H) (rs := o.rs) ?_ (i := 0) (y := y.1) (tm := List.replicate o.rs.length .junk) (us := us) (by simp) ht
      · exact this
      · rcases endOk_lists H with h | h
        · exact .inl (by rw [h]; rfl)
        · exact .inr h.1
include hte hΦ hany
theorem fn_ok {f : FuncId} {fn : Func} {c : Code} (hf : P.funcs[f]? = some fn) (hb : fn.body = some c) (hname : (fn.name == "runtime.NumGoroutine") = false) {S : FnSpec} {k : Nat} (hk : S.chunks.all (fun c => Nat.blt c.1 k && !c.2.isGone) = true) {Λ : Lam}
    (hΛ : ∀ R, Small R k → LamOk P R Λ c) {n : Nat} {pre : S.T → Bool} {F : S.T → OT S.Y}
    (h : ∀ x oy, pre x = true → (F x).run = some oy → ∃ K Kp, wpf te Φ Λ n fn (S.inp.inj x).tm (S.inp.inj x).hp K Kp ∧ (∀ v hp, K v hp → oy.1.is oy.2 false v hp) ∧ ∀ v hp, Kp v hp → oy.1.is oy.2 true v hp) : SummOk P f (S.summ pre F) := by
  refine ⟨?_⟩
  intro R w d args vs out hm hr hrun
  refine .inl ⟨fn, hf, hname, by rw [hb]; rfl, ?_⟩
  simp only [FnSpec.summ] at hrun
  split at hrun
  · cases hrun
  · rename_i x hx
    obtain ⟨hpre, h2⟩ := OT.run_guard hrun
    obtain ⟨oy, h3, h4⟩ := OT.run_bind h2
    unfold FnSpec.emit at h4
    dsimp only at h4
    obtain ⟨hend, h5⟩ := OT.run_guard h4
    obtain ⟨K, Kp, hwp, hK1, hK2⟩ := h x oy hpre h3
    have hx' := hx
    unfold Shape.prj at hx'
    dsimp only at hx'
    cases hbo : S.inp.bdOk ⟨args, R.hp⟩ (S.inp.bd ⟨args, R.hp⟩) && Nat.beq args.length S.inp.n
    · rw [hbo] at hx'; cases hx'
    · rw [hbo] at hx'
      rw [Bool.and_eq_true] at hbo
      obtain ⟨hx1, hx2⟩ := pPair_some hx'
      have hlen : args.length = S.inp.n := Nat.eq_of_beq_eq_true hbo.2
      have hN := named_ok (s := S.inp) (st := ⟨args, R.hp⟩) (F' := R.insF (S.inp.bd ⟨args, R.hp⟩) S.borrow w) (U' := R.insU (S.inp.bd ⟨args, R.hp⟩) S.borrow w) hbo.1 hx2 rfl hm (insF_F hm) (insF_ok hm) ins_mut (insF_heap hm) insU_heap ins_FU hm.env
      have hargs : SV.relL (R.named (R.insF (S.inp.bd ⟨args, R.hp⟩) S.borrow w) (R.insU (S.inp.bd ⟨args, R.hp⟩) S.borrow w) (S.inp.bd ⟨args, R.hp⟩) (injHp S.chunks x.2)) (S.inp.inj x).tm vs :=
        prjSlots_rel (s := S.inp) (st := ⟨args, R.hp⟩) hbo.1 hx2 rfl hm (insF_F hm) (insF_ok hm) hr hx1 (SV.relL_of (by rw [List.length_replicate, ← hlen]; exact SV.relL_length hr) fun i hi hi' => by simp [SV.rel])
      have hsm : Small (R.named (R.insF (S.inp.bd ⟨args, R.hp⟩) S.borrow w) (R.insU (S.inp.bd ⟨args, R.hp⟩) S.borrow w) (S.inp.bd ⟨args, R.hp⟩) (injHp S.chunks x.2)) k := fun c ch hc => by
        obtain ⟨s, y', g1, g2, g3⟩ := injHp_some hx2 (hc : injHp S.chunks x.2 c = some ch)
        have := (List.all_eq_true.1 hk) _ g1
        simp only [Bool.and_eq_true, Bool.not_eq_true'] at this
        refine ⟨blt_of this.1, ?_⟩
        rw [g3]
        cases s <;> first | rfl | (cases this.2; done)
      refine (wpf_sound hte hΦ hany hf hb (hΛ _ hsm) hN hargs hwp).mono fun en w' hp => ?_
      rcases hp with ⟨y, v, R₁, rfl, hx1, hm1, hv, hy⟩ | ⟨y, v, R₁, rfl, hx1, hm1, hv, hy⟩
      · replace hy := hK1 _ _ hy
        obtain ⟨R', a1, a2⟩ := fn_end hm hx hk hx1 hm1 hv hy hend
        rw [hy.1] at h5
        cases h5
        exact ⟨v, R', rfl, a1, a2⟩
      · replace hy := hK2 _ _ hy
        obtain ⟨R', a1, a2⟩ := fn_end hm hx hk hx1 hm1 hv hy hend
        rw [hy.1] at h5
        cases h5
        exact ⟨v, R', rfl, a1, a2⟩
end
end Sx
end Go.Proofs.Ytkedomfjjahjnaa

namespace Go.Proofs.Ytkedomfjjahjnaa
namespace Sx
open Go
theorem bdPut_get {b : Bd} {n m : Nat} {o o' : Option Nat} (h : bdGet b m = some o') : bdGet (bdPut b n o) m = some o' := by
  unfold bdPut
  split
  · exact h
  · rename_i hn
    simp only [bdGet]
    cases hb : Nat.beq n m
    · exact h
    · have := Nat.eq_of_beq_eq_true hb
      subst this
      rw [h] at hn
      cases hn
theorem bindPtrs_get : ∀ {ns : List Nat} {l : List SV} {b : Bd} {m : Nat} {o : Option Nat}, bdGet b m = some o → bdGet (bindPtrs ns l b) m = some o
  | [], _, _, _, _, h => h
  | n :: ns, [], _, _, _, h => h
  | n :: ns, y :: r, b, m, o, h => by
    cases y <;> simp only [bindPtrs] <;> first | exact h | exact bindPtrs_get (bdPut_get h)
theorem bindOne_get {s : Sh} {x : SV} {b : Bd} {m : Nat} {o : Option Nat} (h : bdGet b m = some o) : bdGet (bindOne s x b) m = some o := by
  unfold bindOne
  split <;> first | exact h | exact bdPut_get h | exact bindPtrs_get h
theorem bindCells_get : ∀ {l : List Sh} {cs : List SV} {b : Bd} {m : Nat} {o : Option Nat}, bdGet b m = some o → bdGet (bindCells l cs b) m = some o
  | [], _, _, _, _, h => h
  | s :: r, cs, b, m, o, h => by
    simp only [bindCells]
    exact bindCells_get (bindOne_get h)
theorem bindChunks_get {hp : Hp} : ∀ {l : List (Nat × CSh)} {b : Bd} {m : Nat} {o : Option Nat}, bdGet b m = some o → bdGet (bindChunks hp l b) m = some o
  | [], _, _, _, h => h
  | (n, s) :: r, b, m, o, h => by
    cases s <;> simp only [bindChunks]
    case cells l =>
      refine bindChunks_get ?_
      split
      · split
        · exact bindCells_get h
        · exact h
      · exact h
    all_goals exact bindChunks_get h
section
variable {d : Nat} {hp hp' : Hp} (hg : Grown d hp hp')
include hg
theorem bindChunks_grown : ∀ {l : List (Nat × CSh)} {b : Bd}, (∀ q ∈ l, ∀ c, bdGet (bindChunks hp l b) q.1 = some (some c) → hp c ≠ none) → bindChunks hp' l b = bindChunks hp l b
  | [], _, _ => rfl
  | (n, s) :: r, b, h => by
    cases s <;> simp only [bindChunks] at h ⊢
    case cells l =>
      have e : (match bdGet b n with | some (some c) => (match hp' c with | some ⟨_, .cells vs⟩ => bindCells l vs b | _ => b) | _ => b) = (match bdGet b n with | some (some c) => (match hp c with | some ⟨_, .cells vs⟩ => bindCells l vs b | _ => b) | _ => b) := by
        split
        · rename_i c hc
          have h1 := h (n, .cells l) (by simp) c (bindChunks_get (by
            split
            · split
              · exact bindCells_get hc
              · exact hc
            · exact hc))
          cases hq : hp c with
          | none => exact absurd hq h1
          | some ch => rw [hg.keep _ _ hq]
        · rfl
      exact (congrArg (bindChunks hp' r) e).trans (bindChunks_grown fun q hq c hc => h q (List.mem_cons_of_mem _ hq) c hc)
    all_goals exact bindChunks_grown fun q hq c hc => h q (List.mem_cons_of_mem _ hq) c hc
theorem isNow_grown {bd : Bd} {n c e : Nat} (h : isNow bd hp n c e = true) : isNow bd hp' n c e = true := by
  unfold isNow at h ⊢
  split at h
  · rename_i c' hc
    rw [Bool.and_eq_true] at h
    have h2 := h.2
    split at h2
    · rename_i ch hch
      rw [hg.keep _ _ hch]
      simp only
      rw [h.1, h2]
      rfl
    · cases h2
  · cases h
theorem arePtrs_grown {bd : Bd} : ∀ {ns : List Nat} {l : List SV}, arePtrs bd hp ns l = true → arePtrs bd hp' ns l = true
  | [], [], _ => rfl
  | [], _ :: _, h => by cases h
  | n :: ns, [], h => by cases h
  | n :: ns, y :: r, h => by
    cases y <;> simp only [arePtrs] at h ⊢ <;> try (cases h; done)
    simp only [Bool.and_eq_true] at h ⊢
    exact ⟨⟨⟨isNow_grown hg h.1.1.1, h.1.1.2⟩, h.1.2⟩, arePtrs_grown h.2⟩
theorem isOne_grown {bd : Bd} {s : Sh} {cs : List SV} (h : isOne bd hp s cs = true) : isOne bd hp' s cs = true := by
  unfold isOne at h ⊢
  split at h
  · exact isNow_grown hg h
  · exact h
  · simp only [Bool.and_eq_true] at h ⊢
    exact ⟨⟨isNow_grown hg h.1.1, h.1.2⟩, h.2⟩
  · simp only [Bool.and_eq_true] at h ⊢
    exact ⟨h.1, arePtrs_grown hg h.2⟩
  · simp only [Bool.and_eq_true] at h ⊢
    exact ⟨h.1, isNow_grown hg h.2.1, h.2.2⟩
  · rfl
  · rfl
  · rfl
  · cases h
theorem asListK_grown {ok : Nat → Bool} {t : Ty} {x : SV} {ys : List t.T} (h : asListK ok t hp x = some ys) : asListK ok t hp' x = some ys := by
  have key : ∀ {c : Nat} {f : Option Ch → Option (List t.T)}, f none = none → f (hp c) = some ys → f (hp' c) = some ys := fun {c f} h0 h => by
    cases hq : hp c with
    | none => rw [hq, h0] at h; cases h
    | some ch => rw [hg.keep _ _ hq, ← hq]; exact h
  cases x <;> simp only [asListK] at h ⊢ <;> try (first | exact h | (cases h; done))
  case own c e => exact key (c := c) (f := fun o => match o with | some ⟨ep, .row t' xs⟩ => cond (Nat.beq ep e && ok c) (rowList t t' xs) none | some ⟨ep, .frz t' xs⟩ => cond (Nat.beq ep e) (rowList t t' xs) none | _ => none) rfl h
  case clip c e => exact key (c := c) (f := fun o => match o with | some ⟨ep, .row t' xs⟩ => cond (Nat.beq ep e && ok c) (rowList t t' xs) none | some ⟨ep, .frz t' xs⟩ => cond (Nat.beq ep e) (rowList t t' xs) none | _ => none) rfl h
  case part c e off len => exact key (c := c) (f := fun o => match o with | some ⟨ep, .row t' xs⟩ => cond (Nat.beq ep e && ok c) ((rowList t t' xs).map fun l => (l.drop off).take len) none | some ⟨ep, .frz t' xs⟩ => cond (Nat.beq ep e) ((rowList t t' xs).map fun l => (l.drop off).take len) none | _ => none) rfl h
theorem packK_grown {ok : Nat → Bool} : ∀ {t : Ty} {cs : List SV} {x : t.T}, packK ok hp t cs = some x → packK ok hp' t cs = some x
  | .bool, _, _, h => h
  | .u64, _, _, h => h
  | .u8, _, _, h => h
  | .int, _, _, h => h
  | .str, _, _, h => h
  | .elem, _, _, h => h
  | .prod a b, cs, x, h => by
    obtain ⟨h1, h2⟩ := pPair_some h
    simp only [packK, packK_grown h1, packK_grown h2, pPair]
  | .arr n t, cs, x, h => by
    simp only [packK] at h ⊢
    split at h
    · rename_i hl
      rw [if_pos hl]
      exact mapM_grown (fun _ _ => packK_grown) h
    · cases h
  | .list t, cs, x, h => by
    simp only [packK] at h ⊢
    split at h
    · rename_i hp0
      rw [if_pos hp0]
      obtain ⟨y, rfl, hy⟩ := pOne_some h
      simp only [pOne]
      exact asListK_grown hg hy
    · cases h
omit hg in
theorem optIf_grown {a b : Bool} {x : Unit} (hab : a = true → b = true) (h : optIf a = some x) : optIf b = some x := by
  rw [hab (optIf_some h)]; rfl
theorem prjOne_grown {bd : Bd} {ok : Nat → Bool} {s : Sh} {cs : List SV} {x : s.T} (h : prjOne bd ok hp s cs = some x) : prjOne bd ok hp' s cs = some x := by
  cases s <;> simp only [prjOne] at h ⊢
  case val b t => exact packK_grown hg h
  all_goals exact optIf_grown (isOne_grown hg) h
theorem prjSlot_grown {bd : Bd} {ok : Nat → Bool} {s : Sh} {y : SV} {x : s.T} (h : prjSlot bd ok hp s y = some x) : prjSlot bd ok hp' s y = some x := by
  unfold prjSlot at h ⊢
  split at h
  · exact prjOne_grown hg h
  · cases h
theorem prjCells_grown {bd : Bd} {ok : Nat → Bool} : ∀ {l : List Sh} {cs : List SV} {x : ShT l}, prjCells bd ok hp l cs = some x → prjCells bd ok hp' l cs = some x
  | [], [], _, h => h
  | [], _ :: _, _, h => by cases h
  | s :: r, cs, x, h => by
    obtain ⟨h1, h2⟩ := pPair_some (show pPair (prjOne bd ok hp s (cs.take s.size)) (prjCells bd ok hp r (cs.drop s.size)) = some x from h)
    show pPair (prjOne bd ok hp' s (cs.take s.size)) (prjCells bd ok hp' r (cs.drop s.size)) = some x
    rw [prjOne_grown hg h1, prjCells_grown h2]
    rfl
theorem prjSlots_grown {bd : Bd} {ok : Nat → Bool} {tm : List SV} : ∀ {l : List (Nat × Sh)} {x : SlT l}, prjSlots bd ok hp tm l = some x → prjSlots bd ok hp' tm l = some x
  | [], _, h => h
  | c :: r, x, h => by
    obtain ⟨h1, h2⟩ := pPair_some h
    simp only [prjSlots, prjSlot_grown hg h1, prjSlots_grown h2, pPair]
    rfl
theorem prjChunk_grown {bd : Bd} {ok : Nat → Bool} {s : CSh} {b : Chunk} {x : s.T} (h : prjChunk bd ok hp s b = some x) : prjChunk bd ok hp' s b = some x := by
  cases s <;> cases b <;> simp only [prjChunk] at h ⊢ <;> first | exact h | exact prjCells_grown hg h
theorem prjOld_grown {bd : Bd} {ok : Nat → Bool} {n : Nat} {s : CSh} {x : s.T} (h : prjOld bd ok hp n s = some x) : prjOld bd ok hp' n s = some x := by
  unfold prjOld at h ⊢
  split at h
  · split at h
    · rename_i ch hch
      rw [hg.keep _ _ hch]
      exact prjChunk_grown hg h
    · cases h
  · exact h
  · exact h
theorem prjChunks_grown {bd : Bd} {ok : Nat → Bool} : ∀ {l : List (Nat × CSh)} {x : CShT l}, prjChunks bd ok hp l = some x → prjChunks bd ok hp' l = some x
  | [], _, h => h
  | c :: r, x, h => by
    obtain ⟨h1, h2⟩ := pPair_some h
    simp only [prjChunks, prjOld_grown hg h1, prjChunks_grown h2, pPair]
    rfl
omit hg in
theorem prjChunks_old {bd : Bd} {ok : Nat → Bool} : ∀ {l : List (Nat × CSh)} {x : CShT l}, prjChunks bd ok hp l = some x → ∀ q ∈ l, ∀ c, bdGet bd q.1 = some (some c) → hp c ≠ none
  | [], _, _, _, hq, _, _ => by cases hq
  | c :: r, x, h, q, hq, c', hb => by
    obtain ⟨h1, h2⟩ := pPair_some h
    rcases List.mem_cons.1 hq with he | he
    · subst he
      unfold prjOld at h1
      rw [hb] at h1
      simp only at h1
      intro hn
      rw [hn] at h1
      cases h1
    · exact prjChunks_old h2 q he c' hb
theorem prj_grown {s : Shape} (hfx : s.fixed = 0) {tm : List SV} {x : s.T} (h : s.prj ⟨tm, hp⟩ = some x) : s.prj ⟨tm, hp'⟩ = some x ∧ s.bd ⟨tm, hp'⟩ = s.bd ⟨tm, hp⟩ := by
  unfold Shape.prj at h ⊢
  dsimp only at h ⊢
  cases hb : s.bdOk ⟨tm, hp⟩ (s.bd ⟨tm, hp⟩) && Nat.beq tm.length s.n
  · rw [hb] at h; cases h
  · rw [hb] at h
    obtain ⟨h1, h2⟩ := pPair_some h
    have e : s.bd ⟨tm, hp'⟩ = s.bd ⟨tm, hp⟩ := bindChunks_grown hg (prjChunks_old h2)
    have e2 : s.bdOk ⟨tm, hp'⟩ (s.bd ⟨tm, hp⟩) = s.bdOk ⟨tm, hp⟩ (s.bd ⟨tm, hp⟩) := by
      unfold Shape.bdOk
      rw [hfx]
      rfl
    refine ⟨?_, e⟩
    rw [e, e2, hb, cond_true, prjSlots_grown hg h1, prjChunks_grown hg h2]
    rfl
theorem epOf_grown {c : Nat} (h : hp c ≠ none) : epOf hp' c = epOf hp c := by
  unfold epOf
  cases hq : hp c with
  | none => exact absurd hq h
  | some ch => rw [hg.keep _ _ hq]
theorem updGone_grown {bd : Bd} {fixed : Nat} : ∀ {l : List (Nat × CSh)}, (∀ q ∈ l, ∀ c, bdGet bd q.1 = some (some c) → hp c ≠ none) → updGone bd hp' fixed l = updGone bd hp fixed l
  | [], _ => rfl
  | c :: r, h => by
    have ih := updGone_grown (bd := bd) (fixed := fixed) (l := r) fun q hq => h q (List.mem_cons_of_mem _ hq)
    simp only [updGone, ih]
    cases Nat.blt c.1 fixed
    · simp only [cond_false]
      split
      · rename_i o ho
        rw [epOf_grown hg (h c (by simp) o ho)]
      · rfl
    · rfl
theorem fn_grown {S : FnSpec} {pre : S.T → Bool} {F : S.T → OT S.Y} {args : List SV} {out : Out} (h : ((S.summ pre F).f d args hp).run = some out) : ((S.summ pre F).f d args hp').run = some out := by
  simp only [FnSpec.summ] at h ⊢
  split at h
  · cases h
  · rename_i x hx
    obtain ⟨e1, e2⟩ := prj_grown hg (s := S.inp) rfl hx
    rw [e1]
    simp only
    rw [e2]
    obtain ⟨h1, h2⟩ := OT.run_guard h
    rw [h1]
    obtain ⟨oy, h3, h4⟩ := OT.run_bind h2
    have hold : ∀ q ∈ S.chunks, ∀ c, bdGet (S.inp.bd ⟨args, hp⟩) q.1 = some (some c) → hp c ≠ none := by
      have hx' := hx
      unfold Shape.prj at hx'
      dsimp only at hx'
      cases hb : S.inp.bdOk ⟨args, hp⟩ (S.inp.bd ⟨args, hp⟩) && Nat.beq args.length S.inp.n
      · rw [hb] at hx'; cases hx'
      · rw [hb] at hx'
        obtain ⟨_, h2⟩ := pPair_some hx'
        exact prjChunks_old h2
    have hbok : ∀ p ∈ S.inp.bd ⟨args, hp⟩, ∃ q ∈ S.chunks, q.1 = p.1 := by
      have hx' := hx
      unfold Shape.prj at hx'
      dsimp only at hx'
      cases hb : S.inp.bdOk ⟨args, hp⟩ (S.inp.bd ⟨args, hp⟩) && Nat.beq args.length S.inp.n
      · rw [hb] at hx'; cases hx'
      · rw [Bool.and_eq_true] at hb
        have := hb.1
        unfold Shape.bdOk at this
        simp only [Bool.and_eq_true, List.all_eq_true, List.any_eq_true] at this
        intro p hp
        obtain ⟨q, hq, he⟩ := this.1.2 p hp
        exact ⟨q, hq, Nat.eq_of_beq_eq_true he⟩
    have hepN : ∀ n c, bdGet (S.inp.bd ⟨args, hp⟩) n = some (some c) → epOf hp' c = epOf hp c := fun n c hc => by
      obtain ⟨q, hq, he⟩ := hbok _ (bdGet_mem' hc)
      exact epOf_grown hg (hold q hq c (by rw [he]; exact hc))
    unfold FnSpec.emit at h4
    dsimp only at h4
    obtain ⟨hend, h5⟩ := OT.run_guard h4
    -- the names
    have hfr : fresh hp' d = fresh hp d := fresh_grown hg
    have hnm : ∀ n, S.fixed ≤ n ∨ (∃ c, bdGet (S.inp.bd ⟨args, hp⟩) n = some (some c)) → S.nm (S.inp.bd ⟨args, hp⟩) hp' (fresh hp d) n = S.nm (S.inp.bd ⟨args, hp⟩) hp (fresh hp d) n := fun n hn => by
      unfold FnSpec.nm
      cases hb : Nat.blt n S.fixed
      · rfl
      · rcases hn with hn | ⟨c, hn⟩
        · have := blt_of hb; omega
        · simp only [cond_true, nameOf, hn, hepN n c hn]
    have hnmall : S.nm (S.inp.bd ⟨args, hp⟩) hp' (fresh hp d) = S.nm (S.inp.bd ⟨args, hp⟩) hp (fresh hp d) := by
      funext n
      rcases Nat.lt_or_ge n S.fixed with hn | hn
      · refine hnm n (.inr ?_)
        have he := hend
        unfold FnSpec.endOk at he
        simp only [Bool.and_eq_true, List.all_eq_true] at he
        have h6 := (he.2.1 n (by simpa using hn)).1
        split at h6
        · rename_i c hc; exact ⟨c, hc⟩
        · cases h6
      · exact hnm n (.inl hn)
    have hend' : S.endOk (S.inp.bd ⟨args, hp⟩) hp' (fresh hp d) oy.1 = true := by
      have he := hend
      unfold FnSpec.endOk at he ⊢
      simp only [Bool.and_eq_true] at he ⊢
      refine ⟨he.1, he.2.1, he.2.2.1, ?_⟩
      have h6 := he.2.2.2
      simp only [List.all_eq_true, Bool.and_eq_true, Bool.or_eq_true] at h6 ⊢
      intro q hq
      refine ⟨(h6 q hq).1, (h6 q hq).2.imp_right fun h7 => ⟨h7.1, ?_⟩⟩
      have h8 := h7.2
      have hlt := blt_of h7.1
      cases hz : hp (fresh hp d + (q.1 - S.fixed)) with
      | some ch => rw [hz] at h8; cases h8
      | none =>
        rw [hg.free _ ?_ hz]
        · rfl
        · obtain ⟨k, hk1, hk2⟩ : ∃ k, k ≤ 4000 ∧ fresh hp d = (d + 1) * 4096 + k := by
            have : ∀ (n k : Nat), n + k ≤ 4000 → ∃ j, j ≤ 4000 ∧ freshFrom hp d n k = (d + 1) * 4096 + j := by
              intro n
              induction n with
              | zero => intro k hk; exact ⟨k, by omega, rfl⟩
              | succ n ih =>
                intro k hk
                simp only [freshFrom]
                split
                · exact ⟨k, by omega, rfl⟩
                · exact ih (k + 1) (by omega)
            exact this 4000 0 (by omega)
          rw [hk2]
          unfold inBlk
          omega
    have hem : (S.emit (S.inp.bd ⟨args, hp⟩) d hp' oy.1 oy.2).run = some out := by
      unfold FnSpec.emit
      dsimp only
      rw [hfr, hend', hnmall, updGone_grown hg hold]
      exact h5
    have hbind : ∀ {α β : Type} (t : OT α) (f : α → OT β) (a : α) (b : β), t.run = some a → (f a).run = some b → (t.bind f).run = some b := by
      intro α β t f a b h1 h2
      induction t with
      | ok a' => cases h1; exact h2
      | br c u v hu hv =>
        cases c
        · exact hv h1
        · exact hu h1
      | fail => cases h1
    exact hbind (F x) _ oy out h3 hem
end
theorem fn_mono {S : FnSpec} {pre : S.T → Bool} {F : S.T → OT S.Y} : MonoOk (S.summ pre F) := fun _ _ _ _ _ hg h => fn_grown hg h
end Sx
end Go.Proofs.Ytkedomfjjahjnaa

namespace Go.Proofs.Ytkedomfjjahjnaa
namespace Sx
open Go
def OT.wpR {α : Type} (t : OT α) (K : α → Prop) : Prop :=
  OT.rec (motive := fun _ => Prop) (fun a => K a) (fun b _ _ x y => Bool.rec (motive := fun _ => Prop) y x b) False t
theorem OT.wpR_eq {α : Type} (t : OT α) (K : α → Prop) : t.wpR K = t.wp K := by
  induction t with
  | ok b => rfl
  | br b x y hx hy =>
    cases b
    · exact hy
    · exact hx
  | fail => rfl
theorem OT.wp_of_run {α : Type} {t : OT α} {a : α} {K : α → Prop} (h : t.run = some a) (hk : K a) : t.wp K := by
  induction t with
  | ok b => cases h; exact hk
  | br b x y hx hy =>
    cases b
    · exact hy h
    · exact hx h
  | fail => cases h
def codeOf (fn : Func) : Code := fn.body.getD .skip
abbrev LEnd := Sigma fun p : SE × Shape => p.2.T
def stepK (sh : Shape) (xs : SE → Option Shape) (Q : Sum sh.T LEnd → Prop) (e : SE) (st : St) : Prop := match e with
  | .normal => sh.on st fun s => Q (.inl s)
  | e => match xs e with
    | none => False
    | some s => s.on st fun x => Q (.inr ⟨(e, s), x⟩)
def loopRun {σ ε : Type} (T : σ → OT (Sum σ ε)) : Nat → σ → Option ε
  | 0, _ => none
  | n + 1, s => match (T s).run with
    | some (.inl s') => loopRun T n s'
    | some (.inr e) => some e
    | none => none
def loopF (sh : Shape) (id : Nat) (ok : sh.T → Bool) (f : sh.T → OT LEnd) (st : St) (K : SE → St → Prop) : Prop :=
  sh.on st fun s => cond (ok s) ((f s).wp fun e => K (exitIn id e.1.1) (e.1.2.inj e.2)) False
section
variable {P : Program} {te : TE} {Φ : Env} (hte : TeOk P te) (hΦ : EnvOk P Φ) (hany : AnyOk P te Φ)
include hte hΦ hany
theorem loop_run {R₀ : Ctx} {sh : Shape} (h0 : Small R₀ sh.fixed) {xs : SE → Option Shape} (hxs : ∀ e s, xs e = some s → Small R₀ s.fixed) (hpan : ∀ v, xs (.pan v) = none) {Λ : Lam} {body : Code} (hΛ : LamOk P R₀ Λ body)
    {id n : Nat} {T : sh.T → OT (Sum sh.T LEnd)} (hT : ∀ s Q, wps te Φ Λ n body (sh.inj s) (stepK sh xs Q) = (T s).wpR Q) :
    BlockOk P R₀ (.block id (.loop body)) fun st K => sh.on st fun s => ∃ m e, loopRun T m s = some e ∧ K (exitIn id e.1.1) (e.1.2.inj e.2) := by
  intro R st a w K Q hx hst hl hK
  obtain ⟨s, R', ⟨m, e, hr, hk⟩, hx', hst'⟩ := Shape.on_weak h0 hx hst hl
  refine wp_block (wp_of_loopIn ?_)
  clear hl hst hx
  induction m generalizing s R' a w with
  | zero => cases hr
  | succ m ih =>
    simp only [loopRun] at hr
    cases ht : (T s).run with
    | none => rw [ht] at hr; cases hr
    | some o =>
      rw [ht] at hr
      have hw : wps te Φ Λ n body (sh.inj s) (stepK sh xs (fun z => z = o)) := by
        rw [hT, OT.wpR_eq]; exact OT.wp_of_run ht rfl
      refine loopIn_step (wps_sound (R₀ := R₀) hte hΦ hany hΛ hx' hst' hw ⟨?_, ?_, ?_, ?_⟩)
      · intro R1 st1 a1 w1 hx1 hst1 hk1
        obtain ⟨s', R2, g1, g4, g5⟩ := Shape.on_weak h0 hx1 hst1 (hk1 : sh.on st1 _)
        subst g1
        exact ih a1 w1 s' R2 hr g4 g5
      · intro R1 st1 a1 w1 hx1 hst1 hk1
        simp only [stepK] at hk1
        split at hk1
        · exact hk1.elim
        · rename_i sh' he
          obtain ⟨x, R2, g1, g2, g3⟩ := Shape.on_weak (hxs _ sh' he) hx1 hst1 hk1
          subst g1
          cases hr
          exact hK.ret R2 _ a1 w1 g2 g3 hk
      · intro R1 st1 a1 w1 j hx1 hst1 hk1
        simp only [stepK] at hk1
        split at hk1
        · exact hk1.elim
        · rename_i sh' he
          obtain ⟨x, R2, g1, g2, g3⟩ := Shape.on_weak (hxs _ sh' he) hx1 hst1 hk1
          subst g1
          cases hr
          simp only [exitIn] at hk
          simp only [Exit.inBlock]
          by_cases e : j = id
          · subst e
            rw [Nat.beq_refl, cond_true] at hk
            simp only [if_true]
            exact hK.normal R2 _ a1 w1 g2 g3 hk
          · have hb : Nat.beq j id = false := by
              cases hq : Nat.beq j id
              · rfl
              · exact absurd (Nat.eq_of_beq_eq_true hq) e
            rw [hb, cond_false] at hk
            simp only [e, if_false]
            exact hK.exit R2 _ a1 w1 j g2 g3 hk
      · intro R1 st1 a1 w1 sv v hx1 hst1 hv hk1
        simp only [stepK, hpan] at hk1
theorem loop_ok {R₀ : Ctx} {sh : Shape} (h0 : Small R₀ sh.fixed) {xs : SE → Option Shape} (hxs : ∀ e s, xs e = some s → Small R₀ s.fixed) (hpan : ∀ v, xs (.pan v) = none) {Λ : Lam} {body : Code} (hΛ : LamOk P R₀ Λ body)
    {id n : Nat} {T : sh.T → OT (Sum sh.T LEnd)} (hT : ∀ s Q, wps te Φ Λ n body (sh.inj s) (stepK sh xs Q) = (T s).wpR Q) {ok : sh.T → Bool} {f : sh.T → OT LEnd}
    (hf : ∀ s, ok s = true → ∃ m e, loopRun T m s = some e ∧ (f s).run = some e) : BlockOk P R₀ (.block id (.loop body)) (loopF sh id ok f) := by
  intro R st a w K Q hx hst hl hK
  refine loop_run hte hΦ hany h0 hxs hpan hΛ hT (id := id) R st a w K Q hx hst ?_ hK
  unfold loopF at hl
  unfold Shape.on at hl ⊢
  split at hl
  · rename_i s hs
    cases ho : ok s
    · rw [ho] at hl; exact hl.elim
    · rw [ho] at hl
      obtain ⟨m, e, h1, h2⟩ := hf s ho
      obtain ⟨e', h3, h4⟩ := OT.wp_run hl
      rw [h2] at h3
      cases h3
      rw [hs]
      exact ⟨m, e, h1, h4⟩
  · exact hl.elim
def fnK (S : FnSpec) (sel : SV → Option OutSh) (Q : S.Y → Prop) (v : SV) (hp : Hp) : Prop := match sel v with
  | some o => match (o.shape S.fixed).prj ⟨resL o.rs.length v, hp⟩ with
    | some y => Q ⟨o, y⟩
    | none => False
  | none => False
def fnKL (S : FnSpec) : List OutSh → (S.Y → Prop) → SV → Hp → Prop
  | [], _, _, _ => False
  | o :: r, Q, v, hp => match (o.shape S.fixed).prj ⟨resL o.rs.length v, hp⟩ with
    | some y => Q ⟨o, y⟩
    | none => fnKL S r Q v hp
omit hte hΦ hany in
theorem fnKL_some {S : FnSpec} {Q : S.Y → Prop} {v : SV} {hp : Hp} : ∀ {outs : List OutSh}, fnKL S outs Q v hp → ∃ o ∈ outs, ∃ y, (o.shape S.fixed).prj ⟨resL o.rs.length v, hp⟩ = some y ∧ Q ⟨o, y⟩
  | [], h => h.elim
  | o :: r, h => by
    simp only [fnKL] at h
    split at h
    · rename_i y hy
      exact ⟨o, List.mem_cons_self .., y, hy, h⟩
    · obtain ⟨o', h1, h2⟩ := fnKL_some h
      exact ⟨o', List.mem_cons_of_mem _ h1, h2⟩
theorem fn_tree {f : FuncId} {fn : Func} {c : Code} (hf : P.funcs[f]? = some fn) (hb : fn.body = some c) (hname : (fn.name == "runtime.NumGoroutine") = false) {S : FnSpec} {k : Nat} (hk : S.chunks.all (fun c => Nat.blt c.1 k && !c.2.isGone) = true) {Λ : Lam}
    (hΛ : ∀ R, Small R k → LamOk P R Λ c) {n : Nat} {sel : SV → Option OutSh} (hsel : ∀ v o, sel v = some o → o.pan = false) {pre : S.T → Bool} {F T : S.T → OT S.Y}
    (h : ∀ x Q, wpf te Φ Λ n fn (S.inp.inj x).tm (S.inp.inj x).hp (fnK S sel Q) (fun _ _ => False) = (T x).wpR Q)
    (hF : ∀ x oy, pre x = true → (F x).run = some oy → (T x).run = some oy) : SummOk P f (S.summ pre F) := by
  refine fn_ok hte hΦ hany hf hb hname hk hΛ (n := n) fun x oy hp hr => ⟨fnK S sel (fun z => z = oy), fun _ _ => False, ?_, fun v hp hq => ?_, fun _ _ hq => hq.elim⟩
  · rw [h, OT.wpR_eq]; exact OT.wp_of_run (hF x oy hp hr) rfl
  · unfold fnK at hq
    split at hq
    · rename_i o ho
      split at hq
      · rename_i y hy
        subst hq
        exact ⟨hsel v o ho, hy⟩
      · exact hq.elim
    · exact hq.elim
theorem fn_treeL {f : FuncId} {fn : Func} {c : Code} (hf : P.funcs[f]? = some fn) (hb : fn.body = some c) (hname : (fn.name == "runtime.NumGoroutine") = false) {S : FnSpec} {k : Nat} (hk : S.chunks.all (fun c => Nat.blt c.1 k && !c.2.isGone) = true) {Λ : Lam}
    (hΛ : ∀ R, Small R k → LamOk P R Λ c) {n : Nat} {outs : List OutSh} (hsel : (outs.all fun o => !o.pan) = true) {pre : S.T → Bool} {F T : S.T → OT S.Y}
    (h : ∀ x Q, wpf te Φ Λ n fn (S.inp.inj x).tm (S.inp.inj x).hp (fnKL S outs Q) (fun _ _ => False) = (T x).wpR Q)
    (hF : ∀ x oy, pre x = true → (F x).run = some oy → (T x).run = some oy) : SummOk P f (S.summ pre F) := by
  refine fn_ok hte hΦ hany hf hb hname hk hΛ (n := n) fun x oy hp hr => ⟨fnKL S outs (fun z => z = oy), fun _ _ => False, ?_, fun v hp hq => ?_, fun _ _ hq => hq.elim⟩
  · rw [h, OT.wpR_eq]; exact OT.wp_of_run (hF x oy hp hr) rfl
  · obtain ⟨o, ho, y, hy, hQ⟩ := fnKL_some hq
    subst hQ
    exact ⟨by have := List.all_eq_true.1 hsel o ho; simpa using this, hy⟩
end
end Sx
end Go.Proofs.Ytkedomfjjahjnaa

namespace Go.Proofs.Ytkedomfjjahjnaa
namespace Sx
open Go
def zeroCells : Ty → List Value
  | .bool => [.bool false]
  | .u64 => [vu64 0]
  | .u8 => [vu8 0]
  | .int => [.int .i64 0]
  | .str => [.string ⟨#[]⟩]
  | .elem => [vu64 0, vu64 0, vu64 0, vu64 0]
  | .prod a b => zeroCells a ++ zeroCells b
  | .arr n t => (List.replicate n (zeroCells t)).flatten
  | .list _ => [.slice none 0 0]
theorem zeroCells_length : ∀ t : Ty, (zeroCells t).length = t.size
  | .bool => rfl
  | .u64 => rfl
  | .u8 => rfl
  | .int => rfl
  | .str => rfl
  | .elem => rfl
  | .prod a b => by simp only [zeroCells, List.length_append, zeroCells_length a, zeroCells_length b, Ty.size]
  | .arr n t => by simp [zeroCells, zeroCells_length t, Ty.size]
  | .list _ => rfl
theorem flatten_seg {c : List Value} {m : Nat} (hc : c.length = m) : ∀ (n i : Nat), i < n → seg (List.replicate n c).flatten (i * m) m = c
  | 0, _, h => by omega
  | n + 1, 0, _ => by
    simp only [seg, List.replicate_succ, List.flatten_cons, Nat.zero_mul, List.drop_zero, List.take_append, hc, Nat.sub_self, List.take_zero, List.append_nil]
    rw [← hc, List.take_length]
  | n + 1, i + 1, h => by
    have ih := flatten_seg hc n i (by omega)
    simp only [seg] at ih ⊢
    rw [List.replicate_succ, List.flatten_cons]
    have : (i + 1) * m = c.length + i * m := by rw [hc, Nat.add_mul]; omega
    rw [this, List.drop_append]
    simp only [Nat.add_sub_cancel_left]
    rw [List.drop_eq_nil_of_le (by omega), List.nil_append, ih]
theorem rep_zero {F : Nat → Option Obj} : ∀ t : Ty, Rep F t t.d (zeroCells t)
  | .bool => rfl
  | .u64 => rfl
  | .u8 => rfl
  | .int => ⟨rfl, by decide⟩
  | .str => ⟨rfl, by simp [Ty.d]⟩
  | .elem => rfl
  | .prod a b => by
    refine ⟨by simp only [zeroCells, List.length_append, zeroCells_length], ?_, ?_⟩
    · have : (zeroCells (.prod a b)).take a.size = zeroCells a := by
        simp only [zeroCells]
        rw [← zeroCells_length a, List.take_left]
      rw [this]; exact rep_zero a
    · have : (zeroCells (.prod a b)).drop a.size = zeroCells b := by
        simp only [zeroCells]
        rw [← zeroCells_length a, List.drop_left]
      rw [this]; exact rep_zero b
  | .arr n t => by
    refine ⟨zeroCells_length _, by simp [Ty.d], fun i hi => ?_⟩
    have h1 : (Ty.d (.arr n t)).getD i t.d = t.d := by
      simp [Ty.d, List.getD_eq_getElem?_getD, List.getElem?_replicate, hi]
    rw [h1]
    simp only [zeroCells]
    rw [flatten_seg (zeroCells_length t) n i hi]
    exact rep_zero t
  | .list t => ⟨by simp [Ty.d], none, 0, rfl, by simp [Ty.d], .inl rfl⟩
def descB (P : Program) (T : TypeId) (d : TypeDesc) : TD → Bool
  | .struct fs => match d with
    | .struct fields => decide (fields.toList.map (fun f => (f.offset, f.type)) = fs) && fields.toList.all (fun f => !decide (f.name = "_")) && !P.stoodInHeld T &&
        (fields.toList.mapM (fun f => (P.info? f.type).map fun i => (f.offset, i.size))).isSome
    | _ => false
  | .array n e => match d with
    | .array n' e' => Nat.beq n n' && Nat.beq e e'
    | _ => false
  | .slice e => match d with
    | .slice e' => Nat.beq e e'
    | _ => false
  | .int k => match d with
    | .int k' => decide (k' = k)
    | _ => false
  | .bool => match d with
    | .bool => true
    | _ => false
  | .str => match d with
    | .string => true
    | _ => false
  | .ptr ms => match d with
    | .pointer _ => match P.info? T with
      | some i => ms.all fun nf => match i.methods.find? (fun q => q.name == nf.1) with
        | some m => m.path.toList.isEmpty && (match m.func with
          | some (f, b) => b && Nat.beq f nf.2
          | none => false)
        | none => false
      | none => false
    | _ => false
  | .iface => match d with
    | .interface _ => true
    | _ => false
  | .other => match d with
    | .struct _ => false
    | .array .. => false
    | _ => true
theorem tiOk_of {P : Program} {T : TypeId} {ti : TI} (h1 : (P.info? T).isSome = true) (h4 : ((P.info? T).get h1).zero.isSome = true) (h10 : (P.underlying T).isSome = true)
    (hs : Nat.beq ((P.info? T).get h1).size ti.size = true) (hb : Nat.beq ((P.info? T).get h1).bytes ti.bytes = true)
    (hz : (((P.info? T).get h1).zero.get h4).cells.toList.map ofCell = ti.zero) (hc : ((((P.info? T).get h1).zero.get h4).cells.toList.all Value.oneCell') = true)
    (hn : Nat.beq (((P.info? T).get h1).zero.get h4).cells.size ti.size = true) (h8 : Nat.ble ti.size 16777216 = true) (h9 : (ti.desc.agg || Nat.beq ti.size 1) = true)
    (hd : descB P T ((P.underlying T).get h10) ti.desc = true)
    (ht : match ti.ty with
      | none => True
      | some t => Nat.beq t.size ti.size = true ∧ (((P.info? T).get h1).zero.get h4).cells.toList = zeroCells t ∧ (!ti.desc.agg || !P.eqGuardType P.depth T) = true) : TiOk P T ti := by
  have e1 : P.info? T = some ((P.info? T).get h1) := (Option.some_get h1).symm
  have e4 : ((P.info? T).get h1).zero = some (((P.info? T).get h1).zero.get h4) := (Option.some_get h4).symm
  refine ⟨⟨_, _, e1, Nat.eq_of_beq_eq_true hs, Nat.eq_of_beq_eq_true hb, e4, hz, Nat.eq_of_beq_eq_true hn, fun u hu => List.all_eq_true.1 hc u hu⟩, Nat.le_of_ble_eq_true h8, fun ha => ?_, ⟨_, (Option.some_get h10).symm, ?_⟩, fun t hty => ?_⟩
  · rw [ha, Bool.false_or] at h9
    exact Nat.eq_of_beq_eq_true h9
  · generalize (P.underlying T).get h10 = d at hd
    cases hdd : ti.desc <;> rw [hdd] at hd <;> simp only [descB] at hd <;> (try dsimp only)
    case struct fs =>
      split at hd
      · rename_i fields
        simp only [Bool.and_eq_true, decide_eq_true_eq, List.all_eq_true, Bool.not_eq_true', decide_eq_false_iff_not] at hd
        exact ⟨fields, rfl, hd.1.1.1, hd.1.1.2, hd.1.2, hd.2⟩
      · cases hd
    case array n e =>
      split at hd
      · rw [Bool.and_eq_true] at hd
        rw [Nat.eq_of_beq_eq_true hd.1, Nat.eq_of_beq_eq_true hd.2]
      · cases hd
    case slice e =>
      split at hd
      · rw [Nat.eq_of_beq_eq_true hd]
      · cases hd
    case int k =>
      split at hd
      · rw [of_decide_eq_true hd]
      · cases hd
    case bool =>
      split at hd
      · rfl
      · cases hd
    case str =>
      split at hd
      · rfl
      · cases hd
    case ptr ms =>
      split at hd
      · refine ⟨⟨_, rfl⟩, ?_⟩
        split at hd
        · rename_i i hi
          intro nf hnf
          have hq := List.all_eq_true.1 hd nf hnf
          split at hq
          · rename_i m hm
            rw [Bool.and_eq_true] at hq
            refine ⟨i, m, hi, hm, ?_, ?_⟩
            · apply Array.ext'
              simpa using hq.1
            · have h2 := hq.2
              split at h2
              · rename_i f b hf
                rw [Bool.and_eq_true] at h2
                rw [hf, Nat.eq_of_beq_eq_true h2.2, h2.1]
              · cases h2
          · cases hq
        · cases hd
      · cases hd
    case iface =>
      split at hd
      · exact ⟨_, rfl⟩
      · cases hd
    case other =>
      cases d <;> first | trivial | (cases hd; done)
  · rw [hty] at ht
    obtain ⟨t1, t2, t3⟩ := ht
    refine ⟨Nat.eq_of_beq_eq_true t1, fun F z hz' => ?_, fun ha => ?_⟩
    · rw [e1] at hz'
      simp only [Option.bind_some] at hz'
      rw [e4] at hz'
      cases hz'
      rw [t2]
      exact rep_zero t
    · rw [ha, Bool.not_true, Bool.false_or, Bool.not_eq_true'] at t3
      exact t3
def teNil : TE := fun _ => none
def teCons (T : TypeId) (ti : TI) (te : TE) : TE := fun x => cond (Nat.beq x T) (some ti) (te x)
theorem teOk_nil {P : Program} : TeOk P teNil := fun _ _ h => by cases h
theorem teOk_cons {P : Program} {T : TypeId} {ti : TI} {te : TE} (h : TiOk P T ti) (ht : TeOk P te) : TeOk P (teCons T ti te) := fun x t hx => by
  unfold teCons at hx
  cases hb : Nat.beq x T
  · rw [hb] at hx; exact ht x t hx
  · rw [hb] at hx
    cases hx
    rw [Nat.eq_of_beq_eq_true hb]
    exact h
def envNil : Env := fun _ => none
def envCons (f : FuncId) (s : Summ) (Φ : Env) : Env := fun x => cond (Nat.beq x f) (some s) (Φ x)
theorem envOk_nil {P : Program} : EnvOk P envNil := fun _ _ h => by cases h
theorem envOk_cons {P : Program} {f : FuncId} {s : Summ} {Φ : Env} (h : SummOk P f s) (hΦ : EnvOk P Φ) : EnvOk P (envCons f s Φ) := fun x t hx => by
  unfold envCons at hx
  cases hb : Nat.beq x f
  · rw [hb] at hx; exact hΦ x t hx
  · rw [hb] at hx
    cases hx
    rw [Nat.eq_of_beq_eq_true hb]
    exact h
theorem envMono_nil : EnvMono envNil := fun _ _ h => by cases h
theorem envMono_cons {f : FuncId} {s : Summ} {Φ : Env} (h : MonoOk s) (hΦ : EnvMono Φ) : EnvMono (envCons f s Φ) := fun x t hx => by
  unfold envCons at hx
  cases hb : Nat.beq x f
  · rw [hb] at hx; exact hΦ x t hx
  · rw [hb] at hx
    cases hx
    exact h
end Sx
end Go.Proofs.Ytkedomfjjahjnaa

namespace Go.Proofs.Ytkedomfjjahjnaa
namespace Sx
open Go
def xsMk (l : List (Nat × Shape)) (r : Option Shape) : SE → Option Shape
  | .exit n => (l.find? fun p => Nat.beq p.1 n).map (·.2)
  | .ret => r
  | _ => none
theorem xsMk_small {l : List (Nat × Shape)} {r : Option Shape} {k : Nat} {R : Ctx} (hl : (l.all fun p => Nat.beq p.2.fixed k) = true) (hr : (r.all fun s => Nat.beq s.fixed k) = true) (hR : Small R k) :
    ∀ e s, xsMk l r e = some s → Small R s.fixed := by
  intro e s h
  cases e with
  | exit n =>
    simp only [xsMk] at h
    cases hf : l.find? fun p => Nat.beq p.1 n with
    | none => rw [hf] at h; cases h
    | some p =>
      rw [hf] at h
      cases h
      rw [Nat.eq_of_beq_eq_true (List.all_eq_true.1 hl p (List.mem_of_find?_eq_some hf))]
      exact hR
  | ret =>
    simp only [xsMk] at h
    subst h
    have e : s.fixed = k := Nat.eq_of_beq_eq_true (by simpa using hr)
    rw [e]
    exact hR
  | normal => cases h
  | pan v => cases h
theorem xsMk_pan {l : List (Nat × Shape)} {r : Option Shape} (v : SV) : xsMk l r (.pan v) = none := rfl
section
variable {σ ε : Type} {T : σ → OT (Sum σ ε)}
theorem loopRun_more {s s' : σ} {m : Nat} {e : ε} (h : (T s).run = some (.inl s')) (h2 : loopRun T m s' = some e) : loopRun T (m + 1) s = some e := by
  simp only [loopRun, h]; exact h2
theorem loopRun_out {s : σ} {e : ε} (h : (T s).run = some (.inr e)) : loopRun T 1 s = some e := by
  simp only [loopRun, h]
theorem loopRun_seq (st : Nat → σ) (n : Nat) {e : ε} (h : ∀ k, k < n → (T (st k)).run = some (.inl (st (k + 1)))) (hn : (T (st n)).run = some (.inr e)) : ∀ j k, k + j = n → loopRun T (j + 1) (st k) = some e
  | 0, k, hk => by
    have : k = n := by omega
    subst this
    exact loopRun_out hn
  | j + 1, k, hk => loopRun_more (h k (by omega)) (loopRun_seq st n h hn j (k + 1) (by omega))
theorem loopRun_for (st : Nat → σ) (n : Nat) {e : ε} (h : ∀ k, k < n → (T (st k)).run = some (.inl (st (k + 1)))) (hn : (T (st n)).run = some (.inr e)) (k : Nat) (hk : k ≤ n) : ∃ m, loopRun T m (st k) = some e :=
  ⟨n - k + 1, loopRun_seq st n h hn (n - k) k (by omega)⟩
def upto {β : Type} (f : Nat → β → β) (b : β) : Nat → β
  | 0 => b
  | k + 1 => f k (upto f b k)
theorem loop_upto {β : Type} (mk : Nat → β → σ) (step : Nat → β → β) (fin : β → ε) (n : Nat) (b0 : β) (P : Nat → β → Prop) (h0 : P 0 b0)
    (hs : ∀ k b, k < n → P k b → (T (mk k b)).run = some (.inl (mk (k + 1) (step k b))) ∧ P (k + 1) (step k b))
    (he : ∀ b, P n b → (T (mk n b)).run = some (.inr (fin b))) : (∃ m, loopRun T m (mk 0 b0) = some (fin (upto step b0 n))) ∧ P n (upto step b0 n) := by
  have hP : ∀ k, k ≤ n → P k (upto step b0 k) := by
    intro k
    induction k with
    | zero => exact fun _ => h0
    | succ k ih => exact fun hk => (hs k _ (by omega) (ih (by omega))).2
  refine ⟨?_, hP n (Nat.le_refl _)⟩
  exact loopRun_for (fun k => mk k (upto step b0 k)) n (fun k hk => (hs k _ hk (hP k (by omega))).1) (he _ (hP n (Nat.le_refl _))) 0 (Nat.zero_le _)
end
def tab {α : Type} (x : List α) (n : Nat) (d : α) : List α := (List.range n).map fun i => x.getD i d
theorem tab_eq {α : Type} {x : List α} {n : Nat} {d : α} (h : x.length = n) : tab x n d = x := by
  apply List.ext_getElem
  · simp [tab, h]
  · intro i h1 h2
    simp [tab, List.getD_eq_getElem?_getD, h2]
theorem tab_length {α : Type} {x : List α} {n : Nat} {d : α} : (tab x n d).length = n := by simp [tab]
def lay {α : Type} (x y : List α) (n : Nat) (d : α) : List α := (List.range n).foldl (fun a i => a.set i (y.getD i d)) x
theorem lay_length {α : Type} {x y : List α} {d : α} : ∀ n, (lay x y n d).length = x.length
  | 0 => rfl
  | n + 1 => by
    have := lay_length (x := x) (y := y) (d := d) n
    simp only [lay, List.range_succ, List.foldl_append, List.foldl_cons, List.foldl_nil, List.length_set] at this ⊢
    exact this
theorem lay_get {α : Type} {x y : List α} {d : α} : ∀ n i, n ≤ x.length → i < x.length → (lay x y n d)[i]? = if i < n then some (y.getD i d) else x[i]?
  | 0, i, _, _ => by simp [lay]
  | n + 1, i, h, hi => by
    have ih := lay_get (x := x) (y := y) (d := d) n i (by omega) hi
    have hl := lay_length (x := x) (y := y) (d := d) n
    simp only [lay] at ih hl
    simp only [lay, List.range_succ, List.foldl_append, List.foldl_cons, List.foldl_nil]
    by_cases e : n = i
    · subst e
      rw [List.getElem?_set_self (by omega), if_pos (by omega)]
    · rw [List.getElem?_set_ne e, ih]
      by_cases h1 : i < n
      · rw [if_pos h1, if_pos (by omega)]
      · rw [if_neg h1, if_neg (by omega)]
theorem lay_eq {α : Type} {x y : List α} {n : Nat} {d : α} (hx : x.length = n) (hy : y.length = n) : lay x y n d = y := by
  apply List.ext_getElem?
  intro i
  by_cases hi : i < n
  · rw [lay_get n i (by omega) (by omega), if_pos hi, List.getD_eq_getElem?_getD, List.getElem?_eq_getElem (by omega)]
    rfl
  · rw [List.getElem?_eq_none (by rw [lay_length]; omega), List.getElem?_eq_none (by omega)]
theorem OT.run_br {α : Type} {b : Bool} {x y : OT α} : (OT.br b x y).run = cond b x.run y.run := by cases b <;> rfl
theorem OT.run_ok {α : Type} {a : α} : (OT.ok a).run = some a := rfl
theorem OT.run_fail {α : Type} : (OT.fail : OT α).run = none := rfl
theorem OT.run_t {α : Type} {b : Bool} {x y : OT α} (h : b = true) : (OT.br b x y).run = x.run := by rw [h]; rfl
theorem OT.run_f {α : Type} {b : Bool} {x y : OT α} (h : b = false) : (OT.br b x y).run = y.run := by rw [h]; rfl
def gd {α : Type} : List Bool → OT α → OT α
  | [], x => x
  | b :: r, x => .br b (gd r x) .fail
theorem gd_run {α : Type} {x : OT α} : ∀ {bs : List Bool}, bs.all (fun b => b) = true → (gd bs x).run = x.run
  | [], _ => rfl
  | b :: r, h => by
    rw [List.all_cons, Bool.and_eq_true] at h
    exact (OT.run_t h.1).trans (gd_run h.2)
theorem inR_of {n : Int} (h : -9223372036854775808 ≤ n ∧ n ≤ 9223372036854775807) : inR n = true := by simp [inR, h.1, h.2]
theorem inB_of {k : Int} {n : Nat} (h : 0 ≤ k ∧ k < (n : Int)) : inB k n = true := by simp [inB, h.1, h.2]
theorem inB_lt {k : Int} {n : Nat} (h : inB k n = true) : k.toNat < n := by
  simp only [inB, Bool.and_eq_true, decide_eq_true_eq] at h
  omega
theorem inB_not {k : Int} {n : Nat} (h : k < 0 ∨ (n : Int) ≤ k) : inB k n = false := by
  unfold inB
  rcases h with h | h
  · have : decide (0 ≤ k) = false := decide_eq_false (by omega)
    rw [this]; rfl
  · have : decide (k < (n : Int)) = false := decide_eq_false (by omega)
    rw [this, Bool.and_false]
theorem between_of {l h : Int} {n : Nat} (hh : 0 ≤ l ∧ l ≤ h ∧ h ≤ (n : Int)) : between l h n = true := by simp [between, hh.1, hh.2.1, hh.2.2]
noncomputable def yes (p : Prop) : Bool := @decide p (Classical.propDecidable p)
theorem yes_of {p : Prop} (h : p) : yes p = true := @decide_eq_true p (Classical.propDecidable p) h
theorem of_yes {p : Prop} (h : yes p = true) : p := @of_decide_eq_true p (Classical.propDecidable p) h
end Sx
end Go.Proofs.Ytkedomfjjahjnaa

namespace Go.Proofs.Ytkedomfjjahjnaa
namespace Sx
open Go Go.RowKit
def startCtx (w : World) : Ctx := ⟨fun b => w.heap[b]?, ⟨fun _ => none, w⟩, fun _ => none, noHp⟩
theorem start_ok (w : World) : HpOk (startCtx w) w :=
  ⟨fun _ _ h => h, (fun _ _ h => by cases h), (fun c ch h => by cases h), (fun c c' ch ch' L L' h => by cases h), fun _ _ _ => rfl, ⟨rfl, rfl, rfl⟩⟩
theorem start_below {w w' : World} {R' : Ctx} {u : List (Nat × Ch)} (h : After (startCtx w) R' w' u) : Below w.heap.size w w' := by
  have he := h.mem.env
  rw [h.ext.U] at he
  have hb : ∀ k, k < w.heap.size → w'.heap[k]? = w.heap[k]? := fun k hk => by
    have h1 : w.heap[k]? = some w.heap[k] := by simp [hk]
    rw [h.mem.F k _ (h.ext.F k _ h1), h1]
  refine ⟨he.1, he.2.2, he.2.1, ?_, hb⟩
  rcases Nat.lt_or_ge w'.heap.size w.heap.size with hl | hl
  · have := hb _ hl
    simp [hl] at this
  · exact hl
theorem law_calls {P : Program} {f : FuncId} {s : Summ} (h : SummOk P f s) (hfn : ∃ fn, P.funcs[f]? = some fn ∧ (fn.name == "runtime.NumGoroutine") = false ∧ fn.body.isNone = false) {w : World} {args : List SV} {vs : List Value} {u : List (Nat × Ch)} (hr : SV.relL (startCtx w) args vs)
    (ht : (s.f 0 args noHp).run = some (.ret ⟨.bool true, u⟩)) : Calls P f vs.toArray w fun e w' => e = .returned (.bool true) ∧ Below w.heap.size w w' := by
  have hc : Calls P f vs.toArray w (CallPost (startCtx w) (.ret ⟨.bool true, u⟩)) := by
    rcases h.calls (startCtx w) w 0 args vs _ (start_ok w) hr ht with ⟨_, _, _, _, hc⟩ | ⟨v, w', hv, _⟩
    · exact hc
    · exfalso
      obtain ⟨fn, f1, f2, f3⟩ := hfn
      have f2' : ¬ fn.name = "runtime.NumGoroutine" := by simpa using f2
      have f3' : ¬ fn.body = none := fun e => by rw [e] at f3; simp at f3
      simp [callFunc, f1, f2', f3'] at hv
  refine hc.mono fun e w' hp => ?_
  obtain ⟨v, R', rfl, ha, hv⟩ := hp
  simp only [SV.rel] at hv
  subst hv
  exact ⟨rfl, start_below ha⟩
theorem start_string {w : World} {s : ByteArray} (h : s.size ≤ 140737488351232) : SV.rel (startCtx w) (.str s.data.toList) (.string s) := by
  simp only [SV.rel]
  refine ⟨trivial, ?_⟩
  have : s.data.toList.length = s.size := by rw [Array.length_toList]; rfl
  unfold maxLen'
  omega
theorem start_bool {w : World} {b : Bool} : SV.rel (startCtx w) (.bool b) (.bool b) := by simp only [SV.rel]
theorem start_int {w : World} {n : Int} (h : (Lit.int .i64 n).wf = true) : SV.rel (startCtx w) (.int n) (.int .i64 n) := by
  simp only [SV.rel, true_and]
  have := bounds_i64 h
  exact inR_of (by omega)
theorem start_u64 {w : World} {n : Int} (h : (Lit.int .u64 n).wf = true) : SV.rel (startCtx w) (.u64 (UInt64.ofNat n.toNat)) (.int .u64 n) := by
  have := bounds_u64 h
  simp only [SV.rel, vu64, UInt64.toNat_ofNat']
  congr 1
  omega
theorem start_bytes {w : World} {a : Option Addr} {len cap : Nat} {zs : List Int} (hl : len ≤ cap) (hc : cap ≤ 140737488351232) (hz : zs.length = cap)
    (ha : 0 < len → ∃ x, a = some x ∧ ∀ i, i < zs.length → w.cell? (x.add i) = some (.int .u8 (zs.getD i 0))) (hw : ∀ n ∈ zs, (Lit.int .u8 n).wf = true) :
    SV.rel (startCtx w) (.lst .u8 ((zs.take len).map fun n => UInt8.ofNat n.toNat)) (.slice a len cap) := by
  have hlen : ((zs.take len).map fun n => UInt8.ofNat n.toNat).length = len := by simp; omega
  simp only [SV.rel, Rep]
  refine ⟨by rw [hlen]; unfold maxLen'; omega, a, cap, by rw [hlen], by rw [hlen]; exact hl, ?_⟩
  rcases Nat.eq_zero_or_pos len with h0 | h0
  · left
    subst h0
    rfl
  · right
    obtain ⟨x, rfl, hx⟩ := ha h0
    have h1 := hx 0 (by omega)
    have e0 : x.add 0 = x := rfl
    rw [e0] at h1
    unfold World.cell? at h1
    split at h1
    · rename_i arr E fz hb
      split at h1
      · cases h1
      · rename_i hs
        obtain ⟨blk, off, spot⟩ := x
        have hs' : spot = none := by simpa using hs
        subst hs'
        have hat : ∀ i, i < zs.length → arr[off + i]? = some (.int .u8 (zs.getD i 0)) := fun i hi => by
          have := hx i hi
          unfold World.cell? Addr.add at this
          by_cases hi0 : i = 0
          · subst hi0
            simpa [hb] using this
          · rw [if_neg hi0] at this
            simpa [hb] using this
        refine ⟨blk, off, arr, E, fz, rfl, hb, ?_, fun i hi => ?_⟩
        · rw [hlen, show Ty.u8.size = 1 from rfl, Nat.mul_one]
          have := (Array.getElem?_eq_some_iff.1 (hat (len - 1) (by omega))).1
          omega
        · rw [hlen] at hi
          have h2 := hat i (by omega)
          have hn : zs.getD i 0 ∈ zs := by
            rw [List.getD_eq_getElem?_getD, List.getElem?_eq_getElem (by omega)]
            exact List.getElem_mem _
          have hbd := bounds_u8 (hw _ hn)
          have hseg : seg arr.toList (off + i * Ty.u8.size) Ty.u8.size = [.int .u8 (zs.getD i 0)] := by
            simp only [seg, show Ty.u8.size = 1 from rfl, Nat.mul_one]
            obtain ⟨hlt, he⟩ := Array.getElem?_eq_some_iff.1 h2
            rw [List.drop_eq_getElem_cons (by simpa using hlt)]
            simp [he]
          rw [hseg]
          have hg : (((zs.take len).map fun n => UInt8.ofNat n.toNat).getD i (Ty.d .u8)) = UInt8.ofNat (zs.getD i 0).toNat := by
            simp only [List.getD_eq_getElem?_getD, List.getElem?_map, List.getElem?_take, if_pos hi]
            rw [List.getElem?_eq_getElem (by omega)]
            rfl
          rw [hg]
          simp only [Rep, vu8]
          congr 2
          rw [UInt8.toNat_ofNat']
          omega
    · cases h1
end Sx
end Go.Proofs.Ytkedomfjjahjnaa

namespace Go.Proofs.Ytkedomfjjahjnaa
namespace Sx
open Go Go.RowKit
def sizeIs (te : TE) (T : TypeId) (n : Nat) : Bool := match te T with
  | some ei => Nat.beq ei.size n
  | none => false
def plainFs (go : TypeId → Ty → Bool) (te : TE) : Nat → List (Nat × TypeId) → Ty → Bool
  | o, [(p, T)], y => Nat.beq o p && (sizeIs te T y.size && go T y)
  | o, (p, T) :: q :: r, .prod a b => Nat.beq o p && (sizeIs te T a.size && (go T a && plainFs go te (o + a.size) (q :: r) b))
  | _, _, _ => false
def plainB (te : TE) : Nat → TypeId → Ty → Bool
  | 0, _, _ => false
  | n + 1, T, y => match te T with
    | none => false
    | some ti => match ti.desc, y with
      | .bool, .bool => true
      | .int .u64, .u64 => true
      | .int .u8, .u8 => true
      | .int .i64, .int => true
      | .str, .str => true
      | .array m e, .elem => (match te e with
        | some ei => (match ei.desc with | .int .u64 => true | _ => false) && Nat.beq ei.size 1
        | none => false) && (Nat.beq m 4 && Nat.beq ti.size 4)
      | .array m e, .arr k t => Nat.beq m k && (sizeIs te e t.size && (Nat.beq ti.size (k * t.size) && plainB te n e t))
      | .slice e, .list t => (match te e with
        | some ei => Nat.beq ei.size t.size && (Nat.blt 0 ei.size && Nat.blt 0 ei.bytes)
        | none => false) && plainB te n e t
      | .struct fs, y => Nat.beq ti.size y.size && plainFs (plainB te n) te 0 fs y
      | _, _ => false
theorem mapM_at {α β : Type} {f : α → Option β} : ∀ {l : List α} {ys : List β}, l.mapM f = some ys → ys.length = l.length ∧ ∀ (i : Nat) (h : i < l.length) (h' : i < ys.length), f l[i] = some ys[i]
  | [], ys, h => by
    simp only [List.mapM_nil, Option.pure_def, Option.some.injEq] at h
    subst h
    exact ⟨rfl, fun i hi => absurd hi (Nat.not_lt_zero _)⟩
  | x :: l, ys, h => by
    simp only [List.mapM_cons, Option.bind_eq_bind, Option.bind_eq_some_iff, Option.pure_def, Option.some.injEq] at h
    obtain ⟨y, h1, r, h2, rfl⟩ := h
    obtain ⟨h3, h4⟩ := mapM_at h2
    refine ⟨by simp [h3], fun i hi hi' => ?_⟩
    cases i with
    | zero => exact h1
    | succ i => exact h4 i (by simpa using hi) (by simpa using hi')
theorem exists_list {α : Type} {d : α} {Q : Nat → α → Prop} : ∀ (n : Nat), (∀ i, i < n → ∃ x, Q i x) → ∃ l : List α, l.length = n ∧ ∀ i, i < n → Q i (l.getD i d)
  | 0, _ => ⟨[], rfl, fun i h => absurd h (Nat.not_lt_zero _)⟩
  | n + 1, h => by
    obtain ⟨l, h1, h2⟩ := exists_list n fun i hi => h i (by omega)
    obtain ⟨x, hx⟩ := h n (by omega)
    refine ⟨l ++ [x], by simp [h1], fun i hi => ?_⟩
    rcases Nat.lt_or_ge i n with hi' | hi'
    · have := h2 i hi'
      rwa [List.getD_eq_getElem?_getD, List.getElem?_append_left (by omega), ← List.getD_eq_getElem?_getD]
    · have : i = n := by omega
      subst this
      rw [List.getD_eq_getElem?_getD, List.getElem?_append_right (by omega), h1]
      simpa using hx
theorem cells_at {w : World} {a : Addr} {n : Nat} {cs : List Value} (hn : 0 < n) (h : w.cells? 0 a n = some cs) :
    ∃ arr E fz, w.heap[a.block]? = some (.cells arr E fz) ∧ a.spot = none ∧ a.off + n ≤ arr.size ∧ cs = seg arr.toList a.off n := by
  unfold World.cells? at h
  rw [if_pos (Nat.zero_le _)] at h
  obtain ⟨h1, h2⟩ := mapM_at h
  rw [List.length_range] at h1
  have hat : ∀ i (hi : i < n), w.cell? (a.add i) = some (cs[i]'(by omega)) := fun i hi => by
    have := h2 i (by simpa using hi) (by omega)
    simpa using this
  have h0 := hat 0 hn
  have e0 : a.add 0 = a := rfl
  rw [e0] at h0
  unfold World.cell? at h0
  split at h0
  · rename_i arr E fz hb
    split at h0
    · cases h0
    · rename_i hs
      have hs' : a.spot = none := by simpa using hs
      have hget : ∀ i (hi : i < n), arr[a.off + i]? = some (cs[i]'(by omega)) := fun i hi => by
        have := hat i hi
        unfold World.cell? Addr.add at this
        by_cases hi0 : i = 0
        · subst hi0
          simpa [hb, hs'] using this
        · rw [if_neg hi0] at this
          simpa [hb] using this
      have hle : a.off + n ≤ arr.size := by
        have := (Array.getElem?_eq_some_iff.1 (hget (n - 1) (by omega))).1
        omega
      refine ⟨arr, E, fz, hb, hs', hle, ?_⟩
      apply List.ext_getElem
      · rw [seg_length (by simpa using hle)]; exact h1
      · intro i hi hi'
        obtain ⟨hlt, he⟩ := Array.getElem?_eq_some_iff.1 (hget i (by omega))
        simp only [seg, List.getElem_take, List.getElem_drop, Array.getElem_toList]
        exact he.symm
  · cases h0
section
variable {H : Type} {enc : TypeId × Value → H} {P : Program} {te : TE} (hte : TeOk P te) {w : World} {sp : Nat → Bool}
abbrev heapF (w : World) : Nat → Option Obj := fun b => w.heap[b]?
include hte
theorem cellsOf_te {T : TypeId} {ti : TI} (h : te T = some ti) : P.cellsOf T = ti.size := by
  obtain ⟨i, z, h1, h2, _⟩ := (hte T ti h).info
  unfold Program.cellsOf
  rw [h1]
  exact h2
theorem bytesOf_te {T : TypeId} {ti : TI} (h : te T = some ti) : P.bytesOf T = ti.bytes := by
  obtain ⟨i, z, h1, _, h2, _⟩ := (hte T ti h).info
  unfold Program.bytesOf
  rw [h1]
  exact h2
omit hte in
theorem sizeIs_some {T : TypeId} {n : Nat} (h : sizeIs te T n = true) : ∃ ti, te T = some ti ∧ ti.size = n := by
  unfold sizeIs at h
  split at h
  · rename_i ei he
    exact ⟨ei, he, Nat.eq_of_beq_eq_true h⟩
  · cases h
omit hte in
theorem weightsAll_mem {e : TypeId} : ∀ {l : List (DataW H)} {d : DataW H}, d ∈ l → ∀ n ∈ d.weights P e, n ∈ DataW.weightsAll P e l
  | x :: l, d, h, n, hn => by
    simp only [DataW.weightsAll, List.mem_append]
    rcases List.mem_cons.1 h with rfl | h
    · exact .inl hn
    · exact .inr (weightsAll_mem h n hn)
theorem fields_rep {go : TypeId → Ty → Bool} {fuel : Nat} {cs : List Value}
    (hgo : ∀ T y c d ps, go T y = true → c.length = y.size → DataW.trod enc P w 0 sp true fuel T c = some (d, ps) → (∀ n ∈ d.weights P T, n ≤ reachBytes) → ∃ x, Rep (heapF w) y x c) :
    ∀ (fl : List Field) (o : Nat) (y : Ty) (xs : List (DataW H × List MemPlace)), plainFs go te o (fl.map fun f => (f.offset, f.type)) y = true → o + y.size = cs.length →
      fl.mapM (fun f => DataW.trod enc P w 0 sp true fuel f.type ((cs.drop f.offset).take (P.cellsOf f.type))) = some xs →
      (∀ n ∈ DataW.weightsEach P (fl.map (·.type)) (xs.map (·.1)), n ≤ reachBytes) → ∃ x, Rep (heapF w) y x (cs.drop o)
  | [], o, y, xs, h, _, _, _ => by simp [plainFs] at h
  | [f], o, y, xs, h, hl, hm, hw => by
    simp only [List.map_cons, List.map_nil, plainFs, Bool.and_eq_true] at h
    obtain ⟨h1, h2, h3⟩ := h
    have h1 := Nat.eq_of_beq_eq_true h1
    obtain ⟨ti, ht, hs⟩ := sizeIs_some h2
    simp only [List.mapM_cons, List.mapM_nil, Option.bind_eq_bind, Option.bind_eq_some_iff, Option.pure_def, Option.some.injEq] at hm
    obtain ⟨⟨d, ps⟩, e1, r, rfl, rfl⟩ := hm
    rw [cellsOf_te hte ht, hs, ← h1] at e1
    have hlen : (cs.drop o).length = y.size := by simp; omega
    rw [List.take_of_length_le (by omega)] at e1
    exact hgo _ _ _ _ _ h3 hlen e1 fun n hn => hw n (by simp only [List.map_cons, List.map_nil, DataW.weightsEach, List.append_nil]; exact hn)
  | f :: g :: r, o, y, xs, h, hl, hm, hw => by
    cases y <;> simp only [List.map_cons, plainFs, Bool.and_eq_true] at h <;> try (cases h; done)
    rename_i a b
    obtain ⟨h1, h2, h3, h4⟩ := h
    have h1 := Nat.eq_of_beq_eq_true h1
    obtain ⟨ti, ht, hs⟩ := sizeIs_some h2
    rw [List.mapM_cons] at hm
    simp only [Option.bind_eq_bind, Option.bind_eq_some_iff, Option.pure_def, Option.some.injEq] at hm
    obtain ⟨⟨d, ps⟩, e1, q, e2, rfl⟩ := hm
    rw [cellsOf_te hte ht, hs, ← h1] at e1
    simp only [Ty.size] at hl
    obtain ⟨x1, k1⟩ := hgo _ _ _ _ _ h3 (by simp; omega) e1 fun n hn => hw n (by simp only [List.map_cons, DataW.weightsEach, List.mem_append]; exact .inl hn)
    obtain ⟨x2, k2⟩ := fields_rep hgo (g :: r) (o + a.size) b q h4 (by omega) e2 fun n hn => hw n (by simp only [List.map_cons, DataW.weightsEach, List.mem_append] at hn ⊢; exact .inr hn)
    refine ⟨(x1, x2), ?_⟩
    simp only [Rep]
    refine ⟨by simp; omega, k1, ?_⟩
    rw [List.drop_drop]
    exact k2
theorem array_rep {go : TypeId → Ty → Bool} {fuel : Nat} {cs : List Value} {e : TypeId} {t : Ty} {ei : TI} (he : te e = some ei) (hs : ei.size = t.size)
    (hgo : ∀ c d ps, c.length = t.size → DataW.trod enc P w 0 sp true fuel e c = some (d, ps) → (∀ n ∈ d.weights P e, n ≤ reachBytes) → ∃ x, Rep (heapF w) t x c) {m : Nat} (hl : cs.length = m * t.size) {xs : List (DataW H × List MemPlace)}
    (hm : ((List.range m).mapM fun i => DataW.trod enc P w 0 sp true fuel e ((cs.drop (i * P.cellsOf e)).take (P.cellsOf e))) = some xs)
    (hw : ∀ n ∈ DataW.weightsAll P e (xs.map (·.1)), n ≤ reachBytes) : ∀ i, i < m → ∃ x, Rep (heapF w) t x (seg cs (i * t.size) t.size) := fun i hi => by
  obtain ⟨h1, h2⟩ := mapM_at hm
  rw [List.length_range] at h1
  have := h2 i (by simpa using hi) (by omega)
  rw [List.getElem_range, cellsOf_te hte he, hs] at this
  have hle : (i + 1) * t.size ≤ m * t.size := Nat.mul_le_mul_right _ hi
  rw [Nat.succ_mul] at hle
  refine hgo _ (xs[i]'(by omega)).1 (xs[i]'(by omega)).2 (seg_length (by omega)) this fun n hn => hw n (weightsAll_mem (List.mem_map.2 ⟨xs[i]'(by omega), List.getElem_mem _, rfl⟩) n hn)
omit hte in
theorem u64_rep {fuel : Nat} {e : TypeId} {c : Value} {d : DataW H} {ps : List MemPlace} (hu : P.underlying e = some (.int .u64)) (hr : DataW.trod enc P w 0 sp true fuel e [c] = some (d, ps)) : ∃ x : UInt64, c = vu64 x := by
  cases fuel with
  | zero => simp [DataW.trod] at hr
  | succ fuel =>
    simp only [DataW.trod, hu] at hr
    cases c <;> simp only at hr <;> try (cases hr; done)
    rename_i k' n
    split at hr
    · rename_i hk
      obtain ⟨rfl, hwf⟩ := hk
      have := bounds_u64 hwf
      refine ⟨UInt64.ofNat n.toNat, ?_⟩
      simp only [vu64, UInt64.toNat_ofNat']
      congr 1
      omega
    · cases hr
theorem trod_rep : ∀ (k fuel : Nat) (T : TypeId) (y : Ty) (cs : List Value) (d : DataW H) (ps : List MemPlace), plainB te k T y = true → cs.length = y.size → DataW.trod enc P w 0 sp true fuel T cs = some (d, ps) →
    (∀ n ∈ d.weights P T, n ≤ reachBytes) → ∃ x, Rep (heapF w) y x cs
  | 0, _, _, _, _, _, _, h, _, _, _ => by simp [plainB] at h
  | k + 1, 0, _, _, _, _, _, _, _, h, _ => by simp [DataW.trod] at h
  | k + 1, fuel + 1, T, y, cs, d, ps, h, hl, hr, hw => by
    simp only [plainB] at h
    split at h
    · cases h
    · rename_i ti hT
      obtain ⟨ds, hu, hd⟩ := (hte T ti hT).desc
      have hcells := cellsOf_te hte hT
      simp only [DataW.trod, hu] at hr
      split at h
      · -- bool
        rename_i he
        rw [he] at hd
        simp only at hd
        subst hd
        match cs, hl with
        | [c], hl1 =>
          cases c <;> simp only [Option.some.injEq] at hr <;> try (cases hr; done)
          exact ⟨_, rfl⟩
      · rename_i he
        rw [he] at hd
        simp only at hd
        subst hd
        match cs, hl with
        | [c], hl1 =>
          cases c <;> simp only at hr <;> try (cases hr; done)
          rename_i k' n
          split at hr
          · rename_i hk
            obtain ⟨rfl, hwf⟩ := hk
            have := bounds_u64 hwf
            refine ⟨UInt64.ofNat n.toNat, ?_⟩
            simp only [Rep, vu64, UInt64.toNat_ofNat']
            congr 2
            omega
          · cases hr
      · rename_i he
        rw [he] at hd
        simp only at hd
        subst hd
        match cs, hl with
        | [c], hl1 =>
          cases c <;> simp only at hr <;> try (cases hr; done)
          rename_i k' n
          split at hr
          · rename_i hk
            obtain ⟨rfl, hwf⟩ := hk
            have := bounds_u8 hwf
            refine ⟨UInt8.ofNat n.toNat, ?_⟩
            simp only [Rep, vu8, UInt8.toNat_ofNat']
            congr 2
            omega
          · cases hr
      · rename_i he
        rw [he] at hd
        simp only at hd
        subst hd
        match cs, hl with
        | [c], hl1 =>
          cases c <;> simp only at hr <;> try (cases hr; done)
          rename_i k' n
          split at hr
          · rename_i hk
            obtain ⟨rfl, hwf⟩ := hk
            have := bounds_i64 hwf
            exact ⟨n, rfl, inR_of (by omega)⟩
          · cases hr
      · rename_i he
        rw [he] at hd
        simp only at hd
        subst hd
        match cs, hl with
        | [c], hl1 =>
          cases c <;> simp only at hr <;> try (cases hr; done)
          rename_i s
          split at hr
          · cases hr
            refine ⟨s.data.toList, ?_⟩
            have := hw s.data.toList.length (by simp [DataW.weights])
            unfold reachBytes at this
            simp only [Rep]
            exact ⟨trivial, by unfold maxLen'; omega⟩
          · cases hr
      · -- four words
        rename_i m e he
        rw [he] at hd
        simp only at hd
        subst hd
        simp only [Bool.and_eq_true] at h
        obtain ⟨h1, h2, h3⟩ := h
        split at h1
        · rename_i ei hei
          rw [Bool.and_eq_true] at h1
          obtain ⟨h4, h5⟩ := h1
          split at h4
          · rename_i hed
            have h2 := Nat.eq_of_beq_eq_true h2
            have h5 := Nat.eq_of_beq_eq_true h5
            subst h2
            obtain ⟨de, hue, hde⟩ := (hte e ei hei).desc
            rw [hed] at hde
            simp only at hde
            subst hde
            have hl4 : cs.length = 4 := hl
            simp only at hr
            rw [if_pos (by rw [hcells]; rw [hl4]; exact (Nat.eq_of_beq_eq_true h3).symm)] at hr
            simp only [Option.map_eq_some_iff] at hr
            obtain ⟨xs, hm, hx⟩ := hr
            obtain ⟨m1, m2⟩ := mapM_at hm
            rw [List.length_range] at m1
            match cs, hl4 with
            | [c0, c1, c2, c3], hl1 =>
              have key : ∀ i (hi : i < 4), ∃ x : UInt64, [c0, c1, c2, c3][i] = vu64 x := fun i hi => by
                have := m2 i (by simpa using hi) (by omega)
                rw [List.getElem_range, cellsOf_te hte hei, h5, Nat.mul_one] at this
                have e2 : ([c0, c1, c2, c3].drop i).take 1 = [[c0, c1, c2, c3][i]] := by
                  rw [List.drop_eq_getElem_cons (by simpa using hi)]
                  rfl
                rw [e2] at this
                exact u64_rep hue this
              obtain ⟨x0, k0⟩ := key 0 (by omega)
              obtain ⟨x1, k1⟩ := key 1 (by omega)
              obtain ⟨x2, k2⟩ := key 2 (by omega)
              obtain ⟨x3, k3⟩ := key 3 (by omega)
              simp only [List.getElem_cons_zero, List.getElem_cons_succ] at k0 k1 k2 k3
              exact ⟨⟨x0, x1, x2, x3⟩, by simp only [Rep, k0, k1, k2, k3]⟩
          · cases h4
        · cases h1
      · -- an array
        rename_i m e k' t he
        rw [he] at hd
        simp only at hd
        subst hd
        simp only [Bool.and_eq_true] at h
        obtain ⟨h1, h2, h3, h4⟩ := h
        have h1 := Nat.eq_of_beq_eq_true h1
        subst h1
        obtain ⟨ei, hei, hs⟩ := sizeIs_some h2
        have hl' : cs.length = m * t.size := hl
        simp only at hr
        rw [if_pos (by rw [hcells, hl']; exact (Nat.eq_of_beq_eq_true h3).symm)] at hr
        simp only [Option.map_eq_some_iff] at hr
        obtain ⟨xs, hm, hx⟩ := hr
        cases hx
        have key := array_rep (go := fun _ _ => true) hte hei hs (fun c d ps h1 h2 h3 => trod_rep k fuel e t c d ps h4 h1 h2 h3) hl' hm (fun n hn => hw n (by simp only [DataW.weights, hu]; exact hn))
        obtain ⟨l, l1, l2⟩ := exists_list (d := t.d) m key
        exact ⟨l, hl', l1, l2⟩
      · -- a slice
        rename_i e t he
        rw [he] at hd
        simp only at hd
        subst hd
        rw [Bool.and_eq_true] at h
        obtain ⟨h1, h4⟩ := h
        split at h1
        · rename_i ei hei
          simp only [Bool.and_eq_true] at h1
          obtain ⟨h1, h2, h3⟩ := h1
          have hs := Nat.eq_of_beq_eq_true h1
          have hpos := blt_of h2
          have hby := blt_of h3
          match cs, hl with
          | [c], hl1 =>
            cases c <;> try (exfalso; simp at hr; done)
            rename_i ad len cap
            cases ad with
            | none =>
              rcases len with _ | len
              · rcases cap with _ | cap
                · exact ⟨[], by simp only [Rep]; exact ⟨Nat.zero_le _, none, 0, rfl, Nat.le_refl _, .inl trivial⟩⟩
                · cases hr
              · cases hr
            | some a =>
              simp only at hr
              split at hr
              · rename_i hcond
                obtain ⟨_, hlc, _⟩ := hcond
                simp only [Option.bind_eq_some_iff, Option.map_eq_some_iff] at hr
                obtain ⟨elems, hm, rest, _, hx⟩ := hr
                cases hx
                obtain ⟨m1, m2⟩ := mapM_at hm
                rw [List.length_range] at m1
                have hwt := hw ((elems.length + rest.length) * P.bytesOf e) (by simp [DataW.weights, hu])
                rw [bytesOf_te hte hei] at hwt
                have hlen : len ≤ maxLen' := by
                  have : elems.length ≤ (elems.length + rest.length) * ei.bytes := Nat.le_trans (Nat.le_add_right _ _) (Nat.le_mul_of_pos_right _ hby)
                  unfold reachBytes at hwt
                  unfold maxLen'
                  omega
                rcases Nat.eq_zero_or_pos len with h0 | h0
                · subst h0
                  exact ⟨[], by simp only [Rep]; exact ⟨Nat.zero_le _, _, _, rfl, Nat.zero_le _, .inl trivial⟩⟩
                · have key : ∀ i, i < len → ∃ c, w.cells? 0 (a.add (i * t.size)) t.size = some c ∧ ∃ x, Rep (heapF w) t x c := fun i hi => by
                    have := m2 i (by simpa using hi) (by omega)
                    rw [List.getElem_range, cellsOf_te hte hei, hs] at this
                    obtain ⟨c, hc, hrr⟩ := Option.bind_eq_some_iff.1 this
                    refine ⟨c, hc, trod_rep k fuel e t c (elems[i]'(by omega)).1 (elems[i]'(by omega)).2 h4 ?_ hrr fun n hn => hw n ?_⟩
                    · obtain ⟨arr, E, fz, _, _, hle, rfl⟩ := cells_at (by omega) hc
                      exact seg_length (by simpa using hle)
                    · simp only [DataW.weights, hu, List.mem_cons, List.mem_append]
                      exact .inr (.inl (weightsAll_mem (List.mem_map.2 ⟨elems[i]'(by omega), List.getElem_mem _, rfl⟩) n hn))
                  obtain ⟨c0, hc0, _⟩ := key 0 h0
                  rw [Nat.zero_mul] at hc0
                  obtain ⟨arr, E, fz, hb, hsp, _, _⟩ := cells_at (by omega) hc0
                  have hb' : w.heap[a.block]? = some (.cells arr E fz) := hb
                  have hsp' : a.spot = none := hsp
                  have at_i : ∀ i, i < len → a.off + i * t.size + t.size ≤ arr.size ∧ ∃ x, Rep (heapF w) t x (seg arr.toList (a.off + i * t.size) t.size) := fun i hi => by
                    obtain ⟨c, hc, x, hx⟩ := key i hi
                    obtain ⟨arr2, E2, fz2, hb2, _, hle, rfl⟩ := cells_at (by omega) hc
                    have hblk : (a.add (i * t.size)).block = a.block := by unfold Addr.add; split <;> rfl
                    have hoff : (a.add (i * t.size)).off = a.off + i * t.size := by
                      unfold Addr.add
                      split
                      · rename_i h; rw [h]; rfl
                      · rfl
                    rw [hblk, hb'] at hb2
                    cases hb2
                    rw [hoff] at hle hx
                    exact ⟨hle, x, hx⟩
                  obtain ⟨l, l1, l2⟩ := exists_list (d := t.d) len fun i hi => (at_i i hi).2
                  refine ⟨l, ?_⟩
                  simp only [Rep]
                  refine ⟨by omega, some a, cap, by rw [l1], by omega, .inr ⟨a.block, a.off, arr, E, fz, ?_, hb', ?_, fun i hi => l2 i (by omega)⟩⟩
                  · obtain ⟨blk, off, spot⟩ := a
                    simp only at hsp'
                    rw [hsp']
                  · have := (at_i (len - 1) (by omega)).1
                    have e2 : (len - 1) * t.size + t.size = len * t.size := by
                      rw [← Nat.succ_mul]
                      congr 1
                      omega
                    rw [l1]
                    omega
              · cases hr
        · cases h1
      · -- a struct
        rename_i y _ _ fs he
        rw [he] at hd
        simp only at hd
        obtain ⟨fields, rfl, hf, _⟩ := hd
        rw [Bool.and_eq_true] at h
        have hsz := Nat.eq_of_beq_eq_true h.1
        simp only at hr
        rw [if_pos (by rw [hcells, hl]; exact hsz.symm)] at hr
        simp only [Option.map_eq_some_iff] at hr
        obtain ⟨xs, hm, hx⟩ := hr
        cases hx
        have h2 := h.2
        rw [← hf] at h2
        have := fields_rep hte (go := plainB te k) (cs := cs) (fun T y c d ps a b c' d' => trod_rep k fuel T y c d ps a b c' d') fields.toList 0 y xs h2 (by omega) hm (fun n hn => hw n (by simp only [DataW.weights, hu]; exact hn))
        simpa using this
      · cases h
end
end Sx
end Go.Proofs.Ytkedomfjjahjnaa

namespace Go.Proofs.Ytkedomfjjahjnaa
namespace Sx
open Go Go.RowKit Go.ChangeShapes Go.WideShapes Go.ChangeAt
def argsB (te : TE) (k : Nat) : List TypeId → List (Bool × Ty) → Bool
  | [], [] => true
  | T :: ts, (b, y) :: r => (match te T with
    | some ti => (b == ti.desc.agg) && Nat.beq ti.size y.size
    | none => false) && (plainB te k T y && argsB te k ts r)
  | _, _ => false
section
variable {H : Type} {enc : TypeId × Value → H} {P : Program} {te : TE} (hte : TeOk P te) {w : World} {sp : Nat → Bool}
include hte
theorem open_arg {k : Nat} {T : TypeId} {y : Ty} {ti : TI} {v : Value} {d : DataW H} {ps : List MemPlace} (hT : te T = some ti) (hs : ti.size = y.size) (hp : plainB te k T y = true) {base : Nat} (hok : Value.okWide P w .any base T v)
    (h : DataW.Trod enc P w 0 sp true T v d ps) (hw : ∀ n ∈ d.weights P T, n ≤ reachBytes) : ∃ x : y.T, SV.rel (startCtx w) (inj ti.desc.agg y x) v := by
  obtain ⟨fuel, hf⟩ := h
  obtain ⟨ds, hu, hd⟩ := (hte T ti hT).desc
  cases hagg : ti.desc.agg
  · have hone : v.cells.toList = [v] ∧ v.oneCell' = true := by
      have hc : Cell.okWide P w .any base T v := by
        unfold Value.okWide at hok
        rw [hu] at hok
        cases ds <;> first | exact hok | skip
        all_goals (
          cases hk : ti.desc <;> rw [hk] at hd hagg <;> simp only [TD.agg] at hd hagg <;>
            first | (cases hagg; done) | (cases hd; done) | (obtain ⟨e, he⟩ := hd; cases he; done) | (obtain ⟨⟨e, he⟩, _⟩ := hd; cases he; done) | exact absurd hd id)
      unfold Cell.okWide Cell.ok at hc
      rw [hu] at hc
      cases v <;> first | exact ⟨rfl, rfl⟩ | (exfalso; cases ds <;> first | exact hc | (simp at hc; done))
    rw [hone.1] at hf
    have hsz : y.size = 1 := by rw [← hs]; exact (hte T ti hT).one hagg
    obtain ⟨x, hx⟩ := trod_rep hte k fuel T y [v] d ps hp (by rw [hsz]; rfl) hf hw
    refine ⟨x, ?_⟩
    have hr := rel_unpack (R := startCtx w) y x [v] hx
    simp only [inj, mkVal, Bool.false_eq_true, if_false]
    have hl := unpack_length y x
    rw [hsz] at hl
    match hc : unpack y x, hl with
    | [u], _ =>
      rw [hc] at hr
      obtain ⟨v', e, h⟩ := relL_one hr
      cases e
      exact h
  · have hv : ∃ cs, v = .agg cs ∧ cs.size = P.cellsOf T := by
      unfold Value.okWide at hok
      rw [hu] at hok
      cases hk : ti.desc <;> rw [hk] at hd hagg <;> simp only [TD.agg] at hd hagg <;> try (cases hagg; done)
      · obtain ⟨fields, rfl, _⟩ := hd
        obtain ⟨cs, h1, h2, _⟩ := hok
        exact ⟨cs, h1, h2⟩
      · subst hd
        obtain ⟨cs, h1, h2, _⟩ := hok
        exact ⟨cs, h1, h2⟩
    obtain ⟨cs, rfl, hsz⟩ := hv
    obtain ⟨x, hx⟩ := trod_rep hte k fuel T y cs.toList d ps hp (by rw [Array.length_toList, hsz, cellsOf_te hte hT, hs]) hf hw
    exact ⟨x, mkAgg_rel (rel_unpack (R := startCtx w) y x _ hx) (Rep_one _ _ _ hx)⟩
theorem open_args {k base : Nat} : ∀ {ts : List TypeId} {kd : List (Bool × Ty)} {vs : List Value} {ds : List (DataW H)} {ps : List MemPlace}, argsB te k ts kd = true →
    (∀ (j : Nat) t v, ts[j]? = some t → vs[j]? = some v → Value.okWide P w .any base t v) → DataW.TrodAll enc P w 0 sp true ts vs ds ps → (DataW.weightsEach P ts ds).all (· ≤ reachBytes) = true →
    ∃ x : ATy kd, SV.relL (startCtx w) (injs kd x) vs
  | [], [], [], [], _, _, _, _, _ => ⟨(), by simp only [injs, SV.relL]⟩
  | [], [], v :: vs, _, _, _, _, h, _ => by simp [DataW.TrodAll] at h
  | [], [], [], d :: ds, _, _, _, h, _ => by simp [DataW.TrodAll] at h
  | [], a :: kd, _, _, _, h, _, _, _ => by simp [argsB] at h
  | T :: ts, [], _, _, _, h, _, _, _ => by simp [argsB] at h
  | T :: ts, (b, y) :: kd, [], _, _, _, _, h, _ => by simp [DataW.TrodAll] at h
  | T :: ts, (b, y) :: kd, v :: vs, [], _, _, _, h, _ => by simp [DataW.TrodAll] at h
  | T :: ts, (b, y) :: kd, v :: vs, d :: ds, ps, h, hok, ht, hw => by
    obtain ⟨p, q, h1, h2, rfl⟩ := ht
    simp only [argsB, Bool.and_eq_true] at h
    obtain ⟨hb, hp, hr⟩ := h
    split at hb
    · rename_i ti hT
      rw [Bool.and_eq_true] at hb
      have e1 : b = ti.desc.agg := by simpa using hb.1
      subst e1
      simp only [DataW.weightsEach, List.all_append, Bool.and_eq_true] at hw
      obtain ⟨x, hx⟩ := open_arg hte hT (Nat.eq_of_beq_eq_true hb.2) hp (hok 0 T v rfl rfl) h1 fun n hn => by simpa using List.all_eq_true.1 hw.1 n hn
      obtain ⟨xs, hxs⟩ := open_args hr (fun j t u h1 h2 => hok (j + 1) t u h1 h2) h2 hw.2
      exact ⟨(x, xs), by simp only [injs, SV.relL]; exact ⟨v, vs, rfl, hx, hxs⟩⟩
    · cases hb
end
theorem summ_run {S : FnSpec} {pre : S.T → Bool} {F : S.T → OT S.Y} {args : List SV} {X : S.T} {out : Out} (hp : S.inp.prj ⟨args, noHp⟩ = some X) (hpre : pre X = true)
    (hr : ((F X).bind fun oy => S.emit (S.inp.bd ⟨args, noHp⟩) 0 noHp oy.1 oy.2).run = some out) : ((S.summ pre F).f 0 args noHp).run = some out := by
  simp only [FnSpec.summ, hp, hpre]
  exact hr
theorem lists_small {F : Nat → Option Obj} {t : Ty} {xs : List (List t.T)} {cs : List Value} (h : Rep F (.list (.list t)) xs cs) : ∀ x ∈ xs, x.length ≤ maxLen' := by
  simp only [Rep] at h
  obtain ⟨_, ad, cap, _, _, h⟩ := h
  rcases h with rfl | ⟨b, o, arr, E, fz, _, _, _, h⟩
  · intro x hx
    cases hx
  · intro x hx
    obtain ⟨i, hi, rfl⟩ := List.getElem_of_mem hx
    have := (h i hi).1
    rwa [List.getD_eq_getElem?_getD, List.getElem?_eq_getElem hi] at this
theorem args_again {H : Type} {enc : TypeId × Value → H} {P : Program} {w w' : World} (hl : laidOutB P = true) (hb : Below w.heap.size w w') : ∀ {ts : List TypeId} {vs : List Value} {ds : List (DataW H)} {ps : List MemPlace},
    ts.all (fun t => P.readableRec t && Nat.blt t P.types.size) = true → DataW.TrodAll enc P w 0 (fun _ => true) true ts vs ds ps → DataW.TrodAll enc P w' 0 (fun b => decide (b < w.heap.size)) true ts vs ds ps
  | [], [], [], _, _, h => h
  | [], v :: vs, _, _, _, h => by simp [DataW.TrodAll] at h
  | [], [], d :: ds, _, _, h => by simp [DataW.TrodAll] at h
  | T :: ts, [], _, _, _, h => by simp [DataW.TrodAll] at h
  | T :: ts, v :: vs, [], _, _, h => by simp [DataW.TrodAll] at h
  | T :: ts, v :: vs, d :: ds, ps, hr, h => by
    obtain ⟨p, q, h1, h2, rfl⟩ := h
    simp only [List.all_cons, Bool.and_eq_true] at hr
    have lt1 : ∀ x ∈ p, x.block < w.heap.size := by obtain ⟨m, hm⟩ := h1; exact DataW.trod_lt m _ _ _ hm
    exact ⟨p, q, Below.trod hl hr.1.1 (blt_of hr.1.2) h1 hb lt1, args_again hl hb hr.2 h2, rfl⟩
end Sx
end Go.Proofs.Ytkedomfjjahjnaa

namespace Go.Proofs.Ytkedomfjjahjnaa
namespace Sx
open Go
theorem fn_ext {P : Program} {f : FuncId} {S : FnSpec} {k : Nat} (hk : S.chunks.all (fun c => Nat.blt c.1 k && !c.2.isGone) = true) {pre : S.T → Bool} {F : S.T → OT S.Y}
    (h : ∀ (x : S.T) (oy : S.Y) (vs : List Value) (N : Ctx) (w : World), pre x = true → (F x).run = some oy → SV.relL N (S.inp.inj x).tm vs →
      ∃ v u, (callFunc f vs.toArray).run P w = .ok (.value u) w ∧ SV.rel N v u ∧ oy.1.is oy.2 false v (injHp S.chunks x.2)) : SummOk P f (S.summ pre F) := by
  refine ⟨?_⟩
  intro R w d args vs out hm hr hrun
  simp only [FnSpec.summ] at hrun
  split at hrun
  · cases hrun
  · rename_i x hx
    obtain ⟨hpre, h2⟩ := OT.run_guard hrun
    obtain ⟨oy, h3, h4⟩ := OT.run_bind h2
    unfold FnSpec.emit at h4
    dsimp only at h4
    obtain ⟨hend, h5⟩ := OT.run_guard h4
    have hx' := hx
    unfold Shape.prj at hx'
    dsimp only at hx'
    cases hbo : S.inp.bdOk ⟨args, R.hp⟩ (S.inp.bd ⟨args, R.hp⟩) && Nat.beq args.length S.inp.n
    · rw [hbo] at hx'; cases hx'
    · rw [hbo] at hx'
      rw [Bool.and_eq_true] at hbo
      obtain ⟨hx1, hx2⟩ := pPair_some hx'
      have hlen : args.length = S.inp.n := Nat.eq_of_beq_eq_true hbo.2
      have hN := named_ok (s := S.inp) (st := ⟨args, R.hp⟩) (F' := R.insF (S.inp.bd ⟨args, R.hp⟩) S.borrow w) (U' := R.insU (S.inp.bd ⟨args, R.hp⟩) S.borrow w) hbo.1 hx2 rfl hm (insF_F hm) (insF_ok hm) ins_mut (insF_heap hm) insU_heap ins_FU hm.env
      have hargs : SV.relL (R.named (R.insF (S.inp.bd ⟨args, R.hp⟩) S.borrow w) (R.insU (S.inp.bd ⟨args, R.hp⟩) S.borrow w) (S.inp.bd ⟨args, R.hp⟩) (injHp S.chunks x.2)) (S.inp.inj x).tm vs :=
        prjSlots_rel (s := S.inp) (st := ⟨args, R.hp⟩) hbo.1 hx2 rfl hm (insF_F hm) (insF_ok hm) hr hx1 (SV.relL_of (by rw [List.length_replicate, ← hlen]; exact SV.relL_length hr) fun i hi hi' => by simp [SV.rel])
      obtain ⟨v, u, hv, hru, his⟩ := h x oy vs _ w hpre h3 hargs
      obtain ⟨R', a1, a2⟩ := fn_end hm hx hk (Ctx.Ext.refl _) hN hru his hend
      rw [his.1] at h5
      cases h5
      exact .inr ⟨u, w, hv, u, R', rfl, a1, a2⟩
end Sx
end Go.Proofs.Ytkedomfjjahjnaa

namespace Go.Proofs.Ytkedomfjjahjnaa
namespace Sx
open Go
def Out.after (u : List (Nat × Ch)) : Out → Out
  | .ret e => .ret ⟨e.v, u ++ e.upd⟩
  | .pan v u' => .pan v (u ++ u')
def thawU (c0 e0 : Nat) (vs : List SV) (j c e : Nat) (t : Ty) (xs : List t.T) : List (Nat × Ch) := [(c, ⟨e + 1, .row .u8 []⟩), (c0, ⟨e0, .cells (vs.set j (.lst t xs))⟩)]
def thawCell (s : Summ) (j : Nat) (d : Nat) (args : List SV) (hp : Hp) (c0 e0 : Nat) (vs : List SV) : Option SV → OT Out
  | some (.own c e) => match hpGet hp c e with
    | some (.row t xs) => cond (Nat.beq c c0) .fail ((s.f d args (putHp hp (thawU c0 e0 vs j c e t xs))).map (Out.after (thawU c0 e0 vs j c e t xs)))
    | some _ => s.f d args hp
    | none => .fail
  | _ => s.f d args hp
def thaw (k j : Nat) (s : Summ) : Summ := ⟨true, fun d args hp =>
  match args.getD k .junk with
  | .ptr c0 e0 0 0 => match hpGet hp c0 e0 with
    | some (.cells vs) => thawCell s j d args hp c0 e0 vs vs[j]?
    | some _ => s.f d args hp
    | none => .fail
  | _ => s.f d args hp⟩
theorem map_run {α β : Type} {f : α → β} {x : OT α} {a : α} (h : x.run = some a) : (x.map f).run = some (f a) := by
  induction x with
  | ok b => cases h; rfl
  | br b u v hu hv =>
    cases b
    · exact hv h
    · exact hu h
  | fail => cases h
theorem After.trans {R R1 R2 : Ctx} {w w' : World} {u u' : List (Nat × Ch)} (h : After R R1 w u) (h' : After R1 R2 w' u') : After R R2 w' (u ++ u') :=
  ⟨h.ext.trans h'.ext, by rw [h'.hp, h.hp, putHp_append], h'.mem⟩
theorem thaw_row {R : Ctx} {w : World} (hm : HpOk R w) {c e : Nat} {t : Ty} {xs : List t.T} (hc : R.hp c = some ⟨e, .row t xs⟩) :
    ∃ R1, After R R1 w [(c, ⟨e + 1, .row .u8 []⟩)] ∧ ∀ v, R.own c e v → SV.rel R1 (.lst t xs) v := by
  have h0 := hm.ch c _ hc
  cases hσ : R.σ c with
  | none =>
    simp only [ChOk, hσ] at h0
    obtain ⟨_, hl, rfl⟩ := h0
    have hx : R.Ext (R.upd c ⟨e + 1, .row .u8 []⟩) := ⟨fun _ _ h => h, rfl, fun c' ch' hc' => by
      by_cases h1 : c' = c
      · subst h1
        rw [hc] at hc'
        cases hc'
        exact ⟨⟨e + 1, .row .u8 []⟩, by simp only [Ctx.upd, if_true], Nat.le_succ e, fun e' => absurd e' (by simp)⟩
      · exact ⟨ch', by simp only [Ctx.upd, if_neg h1, hc'], Nat.le_refl _, fun _ => ⟨rfl, rfl⟩⟩⟩
    refine ⟨R.upd c ⟨e + 1, .row .u8 []⟩, ⟨hx, rfl, ?_⟩, fun v hv => ?_⟩
    · refine HpOk.turn hm hx rfl rfl (fun _ _ => rfl) w.heap.size (fun _ _ _ => rfl) ⟨hm.F_new, hm.U_new, fun n ch L hn h1 h2 h3 => ?_⟩ ?_ (fun L h2 => ?_)
      · have := hm.lt h1 h2 h3; omega
      · simp only [ChOk, Ctx.upd, hσ]
        exact ⟨by decide, by simp, trivial⟩
      · have h2 : R.σ c = some L := h2
        rw [hσ] at h2; cases h2
    · have hp := Ctx.own_part hc hv
      obtain ⟨_, _, ad, cap, rfl, h4, h5⟩ := Ctx.part_open hc hp
      simp only [SV.rel, Rep]
      exact ⟨Nat.zero_le _, ad, cap, rfl, h4, .inl trivial⟩
  | some L =>
    simp only [ChOk, hσ] at h0
    obtain ⟨hpos, hl, hF, hU, arr, E, k1, k2, k3, k4⟩ := h0
    have ha := letGo_ok hm hc hσ (w₁ := w) (fun _ _ => rfl) k1 ⟨rfl, rfl, rfl⟩
    refine ⟨_, ha, fun v hv => ?_⟩
    have hp := Ctx.own_part hc hv
    obtain ⟨_, _, ad, cap, rfl, h4, h5⟩ := Ctx.part_open hc hp
    rw [hσ] at h5
    simp only [Chunk.shape, Nat.zero_mul, Nat.add_zero] at h4 h5
    simp only [SV.rel, Rep]
    refine ⟨hl, ad, cap, rfl, h4, ?_⟩
    by_cases hx : xs = []
    · exact .inl hx
    · have hxl : 0 < xs.length := List.length_pos_iff.2 hx
      have had := h5.2 (by omega)
      subst had
      exact .inr ⟨L.block, L.base, arr, E, (0, 0), rfl, by simp only [Ctx.letGo, if_true], by omega, fun i hi => Rep_mono ha.ext.F _ _ _ (k4 i hi)⟩
theorem relL_setAt {R : Ctx} : ∀ {l : List SV} {vs : List Value} (j : Nat) (x : SV), SV.relL R l vs → (∀ v, vs[j]? = some v → SV.rel R x v) → SV.relL R (l.set j x) vs
  | [], _, _, _, h, _ => h
  | y :: l, vs, 0, x, h, hx => by
    simp only [SV.relL] at h
    obtain ⟨v, r, rfl, h1, h2⟩ := h
    simp only [List.set_cons_zero, SV.relL]
    exact ⟨v, r, rfl, hx v rfl, h2⟩
  | y :: l, vs, j + 1, x, h, hx => by
    simp only [SV.relL] at h
    obtain ⟨v, r, rfl, h1, h2⟩ := h
    simp only [List.set_cons_succ, SV.relL]
    exact ⟨v, r, rfl, h1, relL_setAt j x h2 fun u hu => hx u hu⟩
theorem relL_at {R : Ctx} : ∀ {l : List SV} {vs : List Value} {j : Nat} {x : SV}, SV.relL R l vs → l[j]? = some x → ∃ v, vs[j]? = some v ∧ SV.rel R x v
  | y :: l, vs, 0, x, h, hx => by
    simp only [SV.relL] at h
    obtain ⟨v, r, rfl, h1, h2⟩ := h
    cases hx
    exact ⟨v, rfl, h1⟩
  | y :: l, vs, j + 1, x, h, hx => by
    simp only [SV.relL] at h
    obtain ⟨v, r, rfl, h1, h2⟩ := h
    exact relL_at (j := j) h2 hx
  | [], _, _, _, _, hx => by cases hx
theorem thaw_after {R : Ctx} {w : World} (hm : HpOk R w) {c0 e0 j c e : Nat} {vs : List SV} {t : Ty} {xs : List t.T} (h0 : R.hp c0 = some ⟨e0, .cells vs⟩) (hj : vs[j]? = some (.own c e)) (hc : R.hp c = some ⟨e, .row t xs⟩) (hne : c ≠ c0) :
    ∃ R1, After R R1 w (thawU c0 e0 vs j c e t xs) := by
  obtain ⟨R1, ha, hrel⟩ := thaw_row hm hc
  have hch := hm.ch c0 _ h0
  simp only [ChOk] at hch
  obtain ⟨L, hL, hF, hU, arr, E, k1, k2, k3, k4, k5⟩ := hch
  have h0' : R1.hp c0 = some ⟨e0, .cells vs⟩ := by
    rw [ha.hp]
    show (if c0 = c then _ else R.hp c0) = _
    rw [if_neg (fun e => hne e.symm)]
    exact h0
  have hch1 := ha.mem.ch c0 _ h0'
  simp only [ChOk] at hch1
  obtain ⟨L1, hL1, hF1, hU1, arr1, E1, q1, q2, q3, q4, q5⟩ := hch1
  obtain ⟨ch', hc1, hep, hsame⟩ := ha.ext.ch c0 _ h0
  have hL1' : R1.σ c0 = R.σ c0 := by
    rw [h0'] at hc1
    cases hc1
    exact (hsame rfl).2
  rw [hL1', hL] at hL1
  cases hL1
  rw [k1] at q1
  cases q1
  obtain ⟨v, hv, hvr⟩ := relL_at k4 hj
  simp only [SV.rel] at hvr
  have hx : R1.Ext (R1.upd c0 ⟨e0, .cells (vs.set j (.lst t xs))⟩) := Ctx.upd_ext h0' (Nat.le_refl _) (fun _ => by simp only [Chunk.shape, List.length_set])
  refine ⟨R1.upd c0 ⟨e0, .cells (vs.set j (.lst t xs))⟩, ha.ext.trans hx, ?_, ?_⟩
  · show (fun n => if n = c0 then some _ else R1.hp n) = _
    rw [ha.hp]
    rfl
  · refine HpOk.turn ha.mem hx rfl rfl (fun _ _ => rfl) L.block (fun _ _ _ => rfl) ⟨hF1, hU1, fun n ch2 L2 hn hn2 hm2 hs2 heq => hn (ha.mem.apart n c0 _ _ L2 L hn2 h0' hm2 rfl hs2 (hL1'.trans hL) heq)⟩ ?_ (fun L2 h2 => ?_)
    · simp only [ChOk]
      refine ⟨L, hL1'.trans hL, hF1, hU1, arr, E, k1, k2, by rw [List.length_set]; exact k3, ?_, k5⟩
      refine SV.relL_ext hx _ _ (relL_setAt j _ q4 fun u hu => ?_)
      rw [hv] at hu
      cases hu
      exact hrel _ hvr.2
    · have h3 : R1.σ c0 = some L2 := h2
      rw [hL1', hL] at h3
      cases h3
      rfl
theorem thaw_ok {P : Program} {f : FuncId} {s : Summ} {k j : Nat} (h : SummOk P f s) : SummOk P f (thaw k j s) := by
  refine ⟨fun R w d args vs out hm hr hrun => ?_⟩
  simp only [thaw] at hrun
  split at hrun
  · rename_i c0 e0 harg
    split at hrun
    · rename_i vs' hc0
      unfold thawCell at hrun
      split at hrun
      · rename_i c e hj
        split at hrun
        · rename_i t xs hc
          cases hb : Nat.beq c c0
          · rw [hb] at hrun
            obtain ⟨out', h1, rfl⟩ := OT.run_map hrun
            have hne : c ≠ c0 := fun e => by subst e; simp at hb
            obtain ⟨R1, ha⟩ := thaw_after hm (hpGet_some hc0) hj (hpGet_some hc) hne
            rw [← ha.hp] at h1
            have hpost : ∀ en w', CallPost R1 out' en w' → CallPost R (Out.after (thawU c0 e0 vs' j c e t xs) out') en w' := fun en w' hp => by
              cases out' with
              | ret q =>
                obtain ⟨v, R', h2, h3, h4⟩ := hp
                exact ⟨v, R', h2, ha.trans h3, h4⟩
              | pan q u =>
                obtain ⟨v, R', h2, h3, h4⟩ := hp
                exact ⟨v, R', h2, ha.trans h3, h4⟩
            rcases h.calls R1 w d args vs out' ha.mem (SV.relL_ext ha.ext _ _ hr) h1 with ⟨fn, f1, f2, f3, hcl⟩ | ⟨v, w', hv, hp⟩
            · exact .inl ⟨fn, f1, f2, f3, hcl.mono hpost⟩
            · exact .inr ⟨v, w', hv, hpost _ _ hp⟩
          · rw [hb] at hrun; cases hrun
        · exact h.calls R w d args vs out hm hr hrun
        · cases hrun
      · exact h.calls R w d args vs out hm hr hrun
    · exact h.calls R w d args vs out hm hr hrun
    · cases hrun
  · exact h.calls R w d args vs out hm hr hrun
theorem thaw_mono {s : Summ} {k j : Nat} (h : MonoOk s) : MonoOk (thaw k j s) := fun d args hp hp' out hg hrun => by
  simp only [thaw] at hrun ⊢
  split at hrun
  · rename_i c0 e0 harg
    split at hrun
    · rename_i vs' hc0
      rw [hpGet_grown hg hc0]
      simp only
      unfold thawCell at hrun ⊢
      split at hrun
      · rename_i c e hj
        split at hrun
        · rename_i t xs hc
          rw [hpGet_grown hg hc]
          simp only
          cases hb : Nat.beq c c0
          · rw [hb] at hrun
            obtain ⟨out', h1, rfl⟩ := OT.run_map hrun
            refine map_run (h d args _ _ out' ⟨fun n ch hn => ?_, fun n hn hn0 => ?_⟩ h1)
            · simp only [thawU, putHp] at hn ⊢
              by_cases h1 : n = c0
              · rw [if_pos h1] at hn ⊢; exact hn
              · rw [if_neg h1] at hn ⊢
                by_cases h2 : n = c
                · rw [if_pos h2] at hn ⊢; exact hn
                · rw [if_neg h2] at hn ⊢; exact hg.keep _ _ hn
            · simp only [thawU, putHp] at hn0 ⊢
              by_cases h1 : n = c0
              · rw [if_pos h1] at hn0; cases hn0
              · rw [if_neg h1] at hn0 ⊢
                by_cases h2 : n = c
                · rw [if_pos h2] at hn0; cases hn0
                · rw [if_neg h2] at hn0 ⊢; exact hg.free _ hn hn0
          · rw [hb] at hrun; cases hrun
        · rename_i b hnr hc
          rw [hpGet_grown hg hc]
          cases b <;> first | exact h _ _ _ _ _ hg hrun | exact absurd rfl (hnr _ _)
        · cases hrun
      · exact h _ _ _ _ _ hg hrun
    · rename_i b hnc hb
      rw [hpGet_grown hg hb]
      cases b <;> first | exact h _ _ _ _ _ hg hrun | exact absurd rfl (hnc _)
    · cases hrun
  · exact h _ _ _ _ _ hg hrun
end Sx
end Go.Proofs.Ytkedomfjjahjnaa

namespace Go.Proofs.Ytkedomfjjahjnaa
open Sx Go
set_option maxRecDepth 100000
def te_ti1 : TI := ⟨1, 8, .other, [.junk], none⟩
theorem te_to1 : TiOk Try.prog 1 te_ti1 := tiOk_of (by kernel_rfl) (by kernel_rfl) (by kernel_rfl) (by kernel_rfl) (by kernel_rfl) (by kernel_rfl) (by kernel_rfl) (by kernel_rfl) (by kernel_rfl) (by kernel_rfl) (by kernel_rfl) trivial
def te_ti2 : TI := ⟨1, 8, .int .i64, [.int 0], some .int⟩
theorem te_to2 : TiOk Try.prog 2 te_ti2 := tiOk_of (by kernel_rfl) (by kernel_rfl) (by kernel_rfl) (by kernel_rfl) (by kernel_rfl) (by kernel_rfl) (by kernel_rfl) (by kernel_rfl) (by kernel_rfl) (by kernel_rfl) (by kernel_rfl) ⟨by kernel_rfl, by kernel_rfl, by kernel_rfl⟩
def te_ti3 : TI := ⟨1, 8, .int .i64, [.int 0], some .int⟩
theorem te_to3 : TiOk Try.prog 3 te_ti3 := tiOk_of (by kernel_rfl) (by kernel_rfl) (by kernel_rfl) (by kernel_rfl) (by kernel_rfl) (by kernel_rfl) (by kernel_rfl) (by kernel_rfl) (by kernel_rfl) (by kernel_rfl) (by kernel_rfl) ⟨by kernel_rfl, by kernel_rfl, by kernel_rfl⟩
def te_ti4 : TI := ⟨1, 1, .bool, [.bool false], some .bool⟩
theorem te_to4 : TiOk Try.prog 4 te_ti4 := tiOk_of (by kernel_rfl) (by kernel_rfl) (by kernel_rfl) (by kernel_rfl) (by kernel_rfl) (by kernel_rfl) (by kernel_rfl) (by kernel_rfl) (by kernel_rfl) (by kernel_rfl) (by kernel_rfl) ⟨by kernel_rfl, by kernel_rfl, by kernel_rfl⟩
def te_ti5 : TI := ⟨1, 1, .int .u8, [.u8 0], some .u8⟩
theorem te_to5 : TiOk Try.prog 5 te_ti5 := tiOk_of (by kernel_rfl) (by kernel_rfl) (by kernel_rfl) (by kernel_rfl) (by kernel_rfl) (by kernel_rfl) (by kernel_rfl) (by kernel_rfl) (by kernel_rfl) (by kernel_rfl) (by kernel_rfl) ⟨by kernel_rfl, by kernel_rfl, by kernel_rfl⟩
def te_ti6 : TI := ⟨1, 1, .int .u8, [.u8 0], some .u8⟩
theorem te_to6 : TiOk Try.prog 6 te_ti6 := tiOk_of (by kernel_rfl) (by kernel_rfl) (by kernel_rfl) (by kernel_rfl) (by kernel_rfl) (by kernel_rfl) (by kernel_rfl) (by kernel_rfl) (by kernel_rfl) (by kernel_rfl) (by kernel_rfl) ⟨by kernel_rfl, by kernel_rfl, by kernel_rfl⟩
def te_ti7 : TI := ⟨4, 24, .struct [(0, 2), (1, 3), (2, 4), (3, 6)], [.int 0, .int 0, .bool false, .u8 0], some (.prod .int (.prod .int (.prod .bool .u8)))⟩
theorem te_to7 : TiOk Try.prog 7 te_ti7 := tiOk_of (by kernel_rfl) (by kernel_rfl) (by kernel_rfl) (by kernel_rfl) (by kernel_rfl) (by kernel_rfl) (by kernel_rfl) (by kernel_rfl) (by kernel_rfl) (by kernel_rfl) (by kernel_rfl) ⟨by kernel_rfl, by kernel_rfl, by kernel_rfl⟩
def te_ti8 : TI := ⟨4, 24, .struct [(0, 2), (1, 3), (2, 4), (3, 6)], [.int 0, .int 0, .bool false, .u8 0], some (.prod .int (.prod .int (.prod .bool .u8)))⟩
theorem te_to8 : TiOk Try.prog 8 te_ti8 := tiOk_of (by kernel_rfl) (by kernel_rfl) (by kernel_rfl) (by kernel_rfl) (by kernel_rfl) (by kernel_rfl) (by kernel_rfl) (by kernel_rfl) (by kernel_rfl) (by kernel_rfl) (by kernel_rfl) ⟨by kernel_rfl, by kernel_rfl, by kernel_rfl⟩
def te_ti9 : TI := ⟨1, 16, .str, [.str []], some .str⟩
theorem te_to9 : TiOk Try.prog 9 te_ti9 := tiOk_of (by kernel_rfl) (by kernel_rfl) (by kernel_rfl) (by kernel_rfl) (by kernel_rfl) (by kernel_rfl) (by kernel_rfl) (by kernel_rfl) (by kernel_rfl) (by kernel_rfl) (by kernel_rfl) ⟨by kernel_rfl, by kernel_rfl, by kernel_rfl⟩
def te_ti10 : TI := ⟨1, 16, .str, [.str []], some .str⟩
theorem te_to10 : TiOk Try.prog 10 te_ti10 := tiOk_of (by kernel_rfl) (by kernel_rfl) (by kernel_rfl) (by kernel_rfl) (by kernel_rfl) (by kernel_rfl) (by kernel_rfl) (by kernel_rfl) (by kernel_rfl) (by kernel_rfl) (by kernel_rfl) ⟨by kernel_rfl, by kernel_rfl, by kernel_rfl⟩
def te_ti11 : TI := ⟨1, 16, .str, [.str []], some .str⟩
theorem te_to11 : TiOk Try.prog 11 te_ti11 := tiOk_of (by kernel_rfl) (by kernel_rfl) (by kernel_rfl) (by kernel_rfl) (by kernel_rfl) (by kernel_rfl) (by kernel_rfl) (by kernel_rfl) (by kernel_rfl) (by kernel_rfl) (by kernel_rfl) ⟨by kernel_rfl, by kernel_rfl, by kernel_rfl⟩
def te_ti12 : TI := ⟨1, 8, .int .u64, [.u64 0], some .u64⟩
theorem te_to12 : TiOk Try.prog 12 te_ti12 := tiOk_of (by kernel_rfl) (by kernel_rfl) (by kernel_rfl) (by kernel_rfl) (by kernel_rfl) (by kernel_rfl) (by kernel_rfl) (by kernel_rfl) (by kernel_rfl) (by kernel_rfl) (by kernel_rfl) ⟨by kernel_rfl, by kernel_rfl, by kernel_rfl⟩
def te_ti15 : TI := ⟨1, 8, .ptr [("Error", 128), ("RuntimeError", 129)], [.nilp], none⟩
theorem te_to15 : TiOk Try.prog 15 te_ti15 := tiOk_of (by kernel_rfl) (by kernel_rfl) (by kernel_rfl) (by kernel_rfl) (by kernel_rfl) (by kernel_rfl) (by kernel_rfl) (by kernel_rfl) (by kernel_rfl) (by kernel_rfl) (by kernel_rfl) trivial
def te_ti16 : TI := ⟨1, 8, .ptr [("Error", 130), ("RuntimeError", 131)], [.nilp], none⟩
theorem te_to16 : TiOk Try.prog 16 te_ti16 := tiOk_of (by kernel_rfl) (by kernel_rfl) (by kernel_rfl) (by kernel_rfl) (by kernel_rfl) (by kernel_rfl) (by kernel_rfl) (by kernel_rfl) (by kernel_rfl) (by kernel_rfl) (by kernel_rfl) trivial
def te_ti17 : TI := ⟨1, 8, .ptr [("Align", 132)], [.nilp], none⟩
theorem te_to17 : TiOk Try.prog 17 te_ti17 := tiOk_of (by kernel_rfl) (by kernel_rfl) (by kernel_rfl) (by kernel_rfl) (by kernel_rfl) (by kernel_rfl) (by kernel_rfl) (by kernel_rfl) (by kernel_rfl) (by kernel_rfl) (by kernel_rfl) trivial
def te_ti20 : TI := ⟨1, 16, .iface, [.niface], none⟩
theorem te_to20 : TiOk Try.prog 20 te_ti20 := tiOk_of (by kernel_rfl) (by kernel_rfl) (by kernel_rfl) (by kernel_rfl) (by kernel_rfl) (by kernel_rfl) (by kernel_rfl) (by kernel_rfl) (by kernel_rfl) (by kernel_rfl) (by kernel_rfl) trivial
def te_ti21 : TI := ⟨1, 4, .int .i32, [.junk], none⟩
theorem te_to21 : TiOk Try.prog 21 te_ti21 := tiOk_of (by kernel_rfl) (by kernel_rfl) (by kernel_rfl) (by kernel_rfl) (by kernel_rfl) (by kernel_rfl) (by kernel_rfl) (by kernel_rfl) (by kernel_rfl) (by kernel_rfl) (by kernel_rfl) trivial
def te_ti22 : TI := ⟨1, 8, .int .u64, [.u64 0], some .u64⟩
theorem te_to22 : TiOk Try.prog 22 te_ti22 := tiOk_of (by kernel_rfl) (by kernel_rfl) (by kernel_rfl) (by kernel_rfl) (by kernel_rfl) (by kernel_rfl) (by kernel_rfl) (by kernel_rfl) (by kernel_rfl) (by kernel_rfl) (by kernel_rfl) ⟨by kernel_rfl, by kernel_rfl, by kernel_rfl⟩
def te_ti23 : TI := ⟨4, 32, .array 4 22, [.u64 0, .u64 0, .u64 0, .u64 0], some .elem⟩
theorem te_to23 : TiOk Try.prog 23 te_ti23 := tiOk_of (by kernel_rfl) (by kernel_rfl) (by kernel_rfl) (by kernel_rfl) (by kernel_rfl) (by kernel_rfl) (by kernel_rfl) (by kernel_rfl) (by kernel_rfl) (by kernel_rfl) (by kernel_rfl) ⟨by kernel_rfl, by kernel_rfl, by kernel_rfl⟩
def te_ti24 : TI := ⟨4, 32, .array 4 22, [.u64 0, .u64 0, .u64 0, .u64 0], some .elem⟩
theorem te_to24 : TiOk Try.prog 24 te_ti24 := tiOk_of (by kernel_rfl) (by kernel_rfl) (by kernel_rfl) (by kernel_rfl) (by kernel_rfl) (by kernel_rfl) (by kernel_rfl) (by kernel_rfl) (by kernel_rfl) (by kernel_rfl) (by kernel_rfl) ⟨by kernel_rfl, by kernel_rfl, by kernel_rfl⟩
def te_ti25 : TI := ⟨9, 72, .struct [(0, 24), (4, 24), (8, 4)], [.u64 0, .u64 0, .u64 0, .u64 0, .u64 0, .u64 0, .u64 0, .u64 0, .bool false], some (.prod .elem (.prod .elem .bool))⟩
theorem te_to25 : TiOk Try.prog 25 te_ti25 := tiOk_of (by kernel_rfl) (by kernel_rfl) (by kernel_rfl) (by kernel_rfl) (by kernel_rfl) (by kernel_rfl) (by kernel_rfl) (by kernel_rfl) (by kernel_rfl) (by kernel_rfl) (by kernel_rfl) ⟨by kernel_rfl, by kernel_rfl, by kernel_rfl⟩
def te_ti26 : TI := ⟨9, 72, .struct [(0, 24), (4, 24), (8, 4)], [.u64 0, .u64 0, .u64 0, .u64 0, .u64 0, .u64 0, .u64 0, .u64 0, .bool false], some (.prod .elem (.prod .elem .bool))⟩
theorem te_to26 : TiOk Try.prog 26 te_ti26 := tiOk_of (by kernel_rfl) (by kernel_rfl) (by kernel_rfl) (by kernel_rfl) (by kernel_rfl) (by kernel_rfl) (by kernel_rfl) (by kernel_rfl) (by kernel_rfl) (by kernel_rfl) (by kernel_rfl) ⟨by kernel_rfl, by kernel_rfl, by kernel_rfl⟩
def te_ti27 : TI := ⟨1, 8, .other, [.junk], none⟩
theorem te_to27 : TiOk Try.prog 27 te_ti27 := tiOk_of (by kernel_rfl) (by kernel_rfl) (by kernel_rfl) (by kernel_rfl) (by kernel_rfl) (by kernel_rfl) (by kernel_rfl) (by kernel_rfl) (by kernel_rfl) (by kernel_rfl) (by kernel_rfl) trivial
def te_ti28 : TI := ⟨1, 8, .other, [.junk], none⟩
theorem te_to28 : TiOk Try.prog 28 te_ti28 := tiOk_of (by kernel_rfl) (by kernel_rfl) (by kernel_rfl) (by kernel_rfl) (by kernel_rfl) (by kernel_rfl) (by kernel_rfl) (by kernel_rfl) (by kernel_rfl) (by kernel_rfl) (by kernel_rfl) trivial
def te_ti29 : TI := ⟨1, 8, .other, [.junk], none⟩
theorem te_to29 : TiOk Try.prog 29 te_ti29 := tiOk_of (by kernel_rfl) (by kernel_rfl) (by kernel_rfl) (by kernel_rfl) (by kernel_rfl) (by kernel_rfl) (by kernel_rfl) (by kernel_rfl) (by kernel_rfl) (by kernel_rfl) (by kernel_rfl) trivial
def te_ti30 : TI := ⟨1, 24, .slice 32, [.emp], some (.list (.prod .elem (.prod .elem (.prod .elem .bool))))⟩
theorem te_to30 : TiOk Try.prog 30 te_ti30 := tiOk_of (by kernel_rfl) (by kernel_rfl) (by kernel_rfl) (by kernel_rfl) (by kernel_rfl) (by kernel_rfl) (by kernel_rfl) (by kernel_rfl) (by kernel_rfl) (by kernel_rfl) (by kernel_rfl) ⟨by kernel_rfl, by kernel_rfl, by kernel_rfl⟩
def te_ti31 : TI := ⟨13, 104, .struct [(0, 24), (4, 26)], [.u64 0, .u64 0, .u64 0, .u64 0, .u64 0, .u64 0, .u64 0, .u64 0, .u64 0, .u64 0, .u64 0, .u64 0, .bool false], some (.prod .elem (.prod .elem (.prod .elem .bool)))⟩
theorem te_to31 : TiOk Try.prog 31 te_ti31 := tiOk_of (by kernel_rfl) (by kernel_rfl) (by kernel_rfl) (by kernel_rfl) (by kernel_rfl) (by kernel_rfl) (by kernel_rfl) (by kernel_rfl) (by kernel_rfl) (by kernel_rfl) (by kernel_rfl) ⟨by kernel_rfl, by kernel_rfl, by kernel_rfl⟩
def te_ti32 : TI := ⟨13, 104, .struct [(0, 24), (4, 26)], [.u64 0, .u64 0, .u64 0, .u64 0, .u64 0, .u64 0, .u64 0, .u64 0, .u64 0, .u64 0, .u64 0, .u64 0, .bool false], some (.prod .elem (.prod .elem (.prod .elem .bool)))⟩
theorem te_to32 : TiOk Try.prog 32 te_ti32 := tiOk_of (by kernel_rfl) (by kernel_rfl) (by kernel_rfl) (by kernel_rfl) (by kernel_rfl) (by kernel_rfl) (by kernel_rfl) (by kernel_rfl) (by kernel_rfl) (by kernel_rfl) (by kernel_rfl) ⟨by kernel_rfl, by kernel_rfl, by kernel_rfl⟩
def te_ti33 : TI := ⟨1, 8, .int .i64, [.int 0], some .int⟩
theorem te_to33 : TiOk Try.prog 33 te_ti33 := tiOk_of (by kernel_rfl) (by kernel_rfl) (by kernel_rfl) (by kernel_rfl) (by kernel_rfl) (by kernel_rfl) (by kernel_rfl) (by kernel_rfl) (by kernel_rfl) (by kernel_rfl) (by kernel_rfl) ⟨by kernel_rfl, by kernel_rfl, by kernel_rfl⟩
def te_ti35 : TI := ⟨1, 8, .other, [.junk], none⟩
theorem te_to35 : TiOk Try.prog 35 te_ti35 := tiOk_of (by kernel_rfl) (by kernel_rfl) (by kernel_rfl) (by kernel_rfl) (by kernel_rfl) (by kernel_rfl) (by kernel_rfl) (by kernel_rfl) (by kernel_rfl) (by kernel_rfl) (by kernel_rfl) trivial
def te_ti36 : TI := ⟨1, 8, .other, [.junk], none⟩
theorem te_to36 : TiOk Try.prog 36 te_ti36 := tiOk_of (by kernel_rfl) (by kernel_rfl) (by kernel_rfl) (by kernel_rfl) (by kernel_rfl) (by kernel_rfl) (by kernel_rfl) (by kernel_rfl) (by kernel_rfl) (by kernel_rfl) (by kernel_rfl) trivial
def te_ti37 : TI := ⟨1, 8, .other, [.junk], none⟩
theorem te_to37 : TiOk Try.prog 37 te_ti37 := tiOk_of (by kernel_rfl) (by kernel_rfl) (by kernel_rfl) (by kernel_rfl) (by kernel_rfl) (by kernel_rfl) (by kernel_rfl) (by kernel_rfl) (by kernel_rfl) (by kernel_rfl) (by kernel_rfl) trivial
def te_ti38 : TI := ⟨1, 8, .other, [.junk], none⟩
theorem te_to38 : TiOk Try.prog 38 te_ti38 := tiOk_of (by kernel_rfl) (by kernel_rfl) (by kernel_rfl) (by kernel_rfl) (by kernel_rfl) (by kernel_rfl) (by kernel_rfl) (by kernel_rfl) (by kernel_rfl) (by kernel_rfl) (by kernel_rfl) trivial
def te_ti39 : TI := ⟨1, 8, .other, [.junk], none⟩
theorem te_to39 : TiOk Try.prog 39 te_ti39 := tiOk_of (by kernel_rfl) (by kernel_rfl) (by kernel_rfl) (by kernel_rfl) (by kernel_rfl) (by kernel_rfl) (by kernel_rfl) (by kernel_rfl) (by kernel_rfl) (by kernel_rfl) (by kernel_rfl) trivial
def te_ti40 : TI := ⟨1, 8, .other, [.junk], none⟩
theorem te_to40 : TiOk Try.prog 40 te_ti40 := tiOk_of (by kernel_rfl) (by kernel_rfl) (by kernel_rfl) (by kernel_rfl) (by kernel_rfl) (by kernel_rfl) (by kernel_rfl) (by kernel_rfl) (by kernel_rfl) (by kernel_rfl) (by kernel_rfl) trivial
def te_ti41 : TI := ⟨1, 8, .other, [.junk], none⟩
theorem te_to41 : TiOk Try.prog 41 te_ti41 := tiOk_of (by kernel_rfl) (by kernel_rfl) (by kernel_rfl) (by kernel_rfl) (by kernel_rfl) (by kernel_rfl) (by kernel_rfl) (by kernel_rfl) (by kernel_rfl) (by kernel_rfl) (by kernel_rfl) trivial
def te_ti42 : TI := ⟨1, 8, .other, [.junk], none⟩
theorem te_to42 : TiOk Try.prog 42 te_ti42 := tiOk_of (by kernel_rfl) (by kernel_rfl) (by kernel_rfl) (by kernel_rfl) (by kernel_rfl) (by kernel_rfl) (by kernel_rfl) (by kernel_rfl) (by kernel_rfl) (by kernel_rfl) (by kernel_rfl) trivial
def te_ti43 : TI := ⟨1, 8, .other, [.junk], none⟩
theorem te_to43 : TiOk Try.prog 43 te_ti43 := tiOk_of (by kernel_rfl) (by kernel_rfl) (by kernel_rfl) (by kernel_rfl) (by kernel_rfl) (by kernel_rfl) (by kernel_rfl) (by kernel_rfl) (by kernel_rfl) (by kernel_rfl) (by kernel_rfl) trivial
def te_ti44 : TI := ⟨1, 8, .other, [.junk], none⟩
theorem te_to44 : TiOk Try.prog 44 te_ti44 := tiOk_of (by kernel_rfl) (by kernel_rfl) (by kernel_rfl) (by kernel_rfl) (by kernel_rfl) (by kernel_rfl) (by kernel_rfl) (by kernel_rfl) (by kernel_rfl) (by kernel_rfl) (by kernel_rfl) trivial
def te_ti45 : TI := ⟨1, 8, .other, [.junk], none⟩
theorem te_to45 : TiOk Try.prog 45 te_ti45 := tiOk_of (by kernel_rfl) (by kernel_rfl) (by kernel_rfl) (by kernel_rfl) (by kernel_rfl) (by kernel_rfl) (by kernel_rfl) (by kernel_rfl) (by kernel_rfl) (by kernel_rfl) (by kernel_rfl) trivial
def te_ti46 : TI := ⟨1, 8, .ptr [("Add", 29), ("Join", 42), ("Scale", 32), ("Terms", 30), ("Value", 33)], [.nilp], none⟩
theorem te_to46 : TiOk Try.prog 46 te_ti46 := tiOk_of (by kernel_rfl) (by kernel_rfl) (by kernel_rfl) (by kernel_rfl) (by kernel_rfl) (by kernel_rfl) (by kernel_rfl) (by kernel_rfl) (by kernel_rfl) (by kernel_rfl) (by kernel_rfl) trivial
def te_ti48 : TI := ⟨1, 8, .other, [.junk], none⟩
theorem te_to48 : TiOk Try.prog 48 te_ti48 := tiOk_of (by kernel_rfl) (by kernel_rfl) (by kernel_rfl) (by kernel_rfl) (by kernel_rfl) (by kernel_rfl) (by kernel_rfl) (by kernel_rfl) (by kernel_rfl) (by kernel_rfl) (by kernel_rfl) trivial
def te_ti49 : TI := ⟨1, 8, .other, [.junk], none⟩
theorem te_to49 : TiOk Try.prog 49 te_ti49 := tiOk_of (by kernel_rfl) (by kernel_rfl) (by kernel_rfl) (by kernel_rfl) (by kernel_rfl) (by kernel_rfl) (by kernel_rfl) (by kernel_rfl) (by kernel_rfl) (by kernel_rfl) (by kernel_rfl) trivial
def te_ti50 : TI := ⟨1, 8, .other, [.junk], none⟩
theorem te_to50 : TiOk Try.prog 50 te_ti50 := tiOk_of (by kernel_rfl) (by kernel_rfl) (by kernel_rfl) (by kernel_rfl) (by kernel_rfl) (by kernel_rfl) (by kernel_rfl) (by kernel_rfl) (by kernel_rfl) (by kernel_rfl) (by kernel_rfl) trivial
def te_ti51 : TI := ⟨1, 8, .other, [.junk], none⟩
theorem te_to51 : TiOk Try.prog 51 te_ti51 := tiOk_of (by kernel_rfl) (by kernel_rfl) (by kernel_rfl) (by kernel_rfl) (by kernel_rfl) (by kernel_rfl) (by kernel_rfl) (by kernel_rfl) (by kernel_rfl) (by kernel_rfl) (by kernel_rfl) trivial
def te_ti52 : TI := ⟨1, 8, .other, [.junk], none⟩
theorem te_to52 : TiOk Try.prog 52 te_ti52 := tiOk_of (by kernel_rfl) (by kernel_rfl) (by kernel_rfl) (by kernel_rfl) (by kernel_rfl) (by kernel_rfl) (by kernel_rfl) (by kernel_rfl) (by kernel_rfl) (by kernel_rfl) (by kernel_rfl) trivial
def te_ti53 : TI := ⟨1, 8, .other, [.junk], none⟩
theorem te_to53 : TiOk Try.prog 53 te_ti53 := tiOk_of (by kernel_rfl) (by kernel_rfl) (by kernel_rfl) (by kernel_rfl) (by kernel_rfl) (by kernel_rfl) (by kernel_rfl) (by kernel_rfl) (by kernel_rfl) (by kernel_rfl) (by kernel_rfl) trivial
def te_ti54 : TI := ⟨1, 24, .slice 5, [.emp], some (.list .u8)⟩
theorem te_to54 : TiOk Try.prog 54 te_ti54 := tiOk_of (by kernel_rfl) (by kernel_rfl) (by kernel_rfl) (by kernel_rfl) (by kernel_rfl) (by kernel_rfl) (by kernel_rfl) (by kernel_rfl) (by kernel_rfl) (by kernel_rfl) (by kernel_rfl) ⟨by kernel_rfl, by kernel_rfl, by kernel_rfl⟩
def te_ti55 : TI := ⟨1, 8, .other, [.junk], none⟩
theorem te_to55 : TiOk Try.prog 55 te_ti55 := tiOk_of (by kernel_rfl) (by kernel_rfl) (by kernel_rfl) (by kernel_rfl) (by kernel_rfl) (by kernel_rfl) (by kernel_rfl) (by kernel_rfl) (by kernel_rfl) (by kernel_rfl) (by kernel_rfl) trivial
def te_ti56 : TI := ⟨1, 8, .other, [.junk], none⟩
theorem te_to56 : TiOk Try.prog 56 te_ti56 := tiOk_of (by kernel_rfl) (by kernel_rfl) (by kernel_rfl) (by kernel_rfl) (by kernel_rfl) (by kernel_rfl) (by kernel_rfl) (by kernel_rfl) (by kernel_rfl) (by kernel_rfl) (by kernel_rfl) trivial
def te_ti57 : TI := ⟨1, 8, .other, [.junk], none⟩
theorem te_to57 : TiOk Try.prog 57 te_ti57 := tiOk_of (by kernel_rfl) (by kernel_rfl) (by kernel_rfl) (by kernel_rfl) (by kernel_rfl) (by kernel_rfl) (by kernel_rfl) (by kernel_rfl) (by kernel_rfl) (by kernel_rfl) (by kernel_rfl) trivial
def te_ti58 : TI := ⟨1, 8, .other, [.junk], none⟩
theorem te_to58 : TiOk Try.prog 58 te_ti58 := tiOk_of (by kernel_rfl) (by kernel_rfl) (by kernel_rfl) (by kernel_rfl) (by kernel_rfl) (by kernel_rfl) (by kernel_rfl) (by kernel_rfl) (by kernel_rfl) (by kernel_rfl) (by kernel_rfl) trivial
def te_ti59 : TI := ⟨1, 8, .other, [.junk], none⟩
theorem te_to59 : TiOk Try.prog 59 te_ti59 := tiOk_of (by kernel_rfl) (by kernel_rfl) (by kernel_rfl) (by kernel_rfl) (by kernel_rfl) (by kernel_rfl) (by kernel_rfl) (by kernel_rfl) (by kernel_rfl) (by kernel_rfl) (by kernel_rfl) trivial
def te_ti60 : TI := ⟨1, 8, .other, [.junk], none⟩
theorem te_to60 : TiOk Try.prog 60 te_ti60 := tiOk_of (by kernel_rfl) (by kernel_rfl) (by kernel_rfl) (by kernel_rfl) (by kernel_rfl) (by kernel_rfl) (by kernel_rfl) (by kernel_rfl) (by kernel_rfl) (by kernel_rfl) (by kernel_rfl) trivial
def te_ti61 : TI := ⟨1, 8, .other, [.junk], none⟩
theorem te_to61 : TiOk Try.prog 61 te_ti61 := tiOk_of (by kernel_rfl) (by kernel_rfl) (by kernel_rfl) (by kernel_rfl) (by kernel_rfl) (by kernel_rfl) (by kernel_rfl) (by kernel_rfl) (by kernel_rfl) (by kernel_rfl) (by kernel_rfl) trivial
def te_ti62 : TI := ⟨1, 8, .other, [.junk], none⟩
theorem te_to62 : TiOk Try.prog 62 te_ti62 := tiOk_of (by kernel_rfl) (by kernel_rfl) (by kernel_rfl) (by kernel_rfl) (by kernel_rfl) (by kernel_rfl) (by kernel_rfl) (by kernel_rfl) (by kernel_rfl) (by kernel_rfl) (by kernel_rfl) trivial
def te_ti63 : TI := ⟨1, 24, .slice 65, [.emp], some (.list (.prod .int (.prod .elem (.prod .elem (.prod .elem .bool)))))⟩
theorem te_to63 : TiOk Try.prog 63 te_ti63 := tiOk_of (by kernel_rfl) (by kernel_rfl) (by kernel_rfl) (by kernel_rfl) (by kernel_rfl) (by kernel_rfl) (by kernel_rfl) (by kernel_rfl) (by kernel_rfl) (by kernel_rfl) (by kernel_rfl) ⟨by kernel_rfl, by kernel_rfl, by kernel_rfl⟩
def te_ti64 : TI := ⟨14, 112, .struct [(0, 3), (1, 24), (5, 26)], [.int 0, .u64 0, .u64 0, .u64 0, .u64 0, .u64 0, .u64 0, .u64 0, .u64 0, .u64 0, .u64 0, .u64 0, .u64 0, .bool false], some (.prod .int (.prod .elem (.prod .elem (.prod .elem .bool))))⟩
theorem te_to64 : TiOk Try.prog 64 te_ti64 := tiOk_of (by kernel_rfl) (by kernel_rfl) (by kernel_rfl) (by kernel_rfl) (by kernel_rfl) (by kernel_rfl) (by kernel_rfl) (by kernel_rfl) (by kernel_rfl) (by kernel_rfl) (by kernel_rfl) ⟨by kernel_rfl, by kernel_rfl, by kernel_rfl⟩
def te_ti65 : TI := ⟨14, 112, .struct [(0, 3), (1, 24), (5, 26)], [.int 0, .u64 0, .u64 0, .u64 0, .u64 0, .u64 0, .u64 0, .u64 0, .u64 0, .u64 0, .u64 0, .u64 0, .u64 0, .bool false], some (.prod .int (.prod .elem (.prod .elem (.prod .elem .bool))))⟩
theorem te_to65 : TiOk Try.prog 65 te_ti65 := tiOk_of (by kernel_rfl) (by kernel_rfl) (by kernel_rfl) (by kernel_rfl) (by kernel_rfl) (by kernel_rfl) (by kernel_rfl) (by kernel_rfl) (by kernel_rfl) (by kernel_rfl) (by kernel_rfl) ⟨by kernel_rfl, by kernel_rfl, by kernel_rfl⟩
def te_ti66 : TI := ⟨1, 8, .other, [.junk], none⟩
theorem te_to66 : TiOk Try.prog 66 te_ti66 := tiOk_of (by kernel_rfl) (by kernel_rfl) (by kernel_rfl) (by kernel_rfl) (by kernel_rfl) (by kernel_rfl) (by kernel_rfl) (by kernel_rfl) (by kernel_rfl) (by kernel_rfl) (by kernel_rfl) trivial
def te_ti67 : TI := ⟨1, 8, .other, [.junk], none⟩
theorem te_to67 : TiOk Try.prog 67 te_ti67 := tiOk_of (by kernel_rfl) (by kernel_rfl) (by kernel_rfl) (by kernel_rfl) (by kernel_rfl) (by kernel_rfl) (by kernel_rfl) (by kernel_rfl) (by kernel_rfl) (by kernel_rfl) (by kernel_rfl) trivial
def te_ti68 : TI := ⟨1, 8, .other, [.junk], none⟩
theorem te_to68 : TiOk Try.prog 68 te_ti68 := tiOk_of (by kernel_rfl) (by kernel_rfl) (by kernel_rfl) (by kernel_rfl) (by kernel_rfl) (by kernel_rfl) (by kernel_rfl) (by kernel_rfl) (by kernel_rfl) (by kernel_rfl) (by kernel_rfl) trivial
def te_ti69 : TI := ⟨1, 8, .int .i64, [.int 0], some .int⟩
theorem te_to69 : TiOk Try.prog 69 te_ti69 := tiOk_of (by kernel_rfl) (by kernel_rfl) (by kernel_rfl) (by kernel_rfl) (by kernel_rfl) (by kernel_rfl) (by kernel_rfl) (by kernel_rfl) (by kernel_rfl) (by kernel_rfl) (by kernel_rfl) ⟨by kernel_rfl, by kernel_rfl, by kernel_rfl⟩
def te_ti70 : TI := ⟨12, 96, .struct [(0, 24), (4, 24), (8, 24)], List.replicate 12 (.u64 0), some (.prod .elem (.prod .elem .elem))⟩
theorem te_to70 : TiOk Try.prog 70 te_ti70 := tiOk_of (by kernel_rfl) (by kernel_rfl) (by kernel_rfl) (by kernel_rfl) (by kernel_rfl) (by kernel_rfl) (by kernel_rfl) (by kernel_rfl) (by kernel_rfl) (by kernel_rfl) (by kernel_rfl) ⟨by kernel_rfl, by kernel_rfl, by kernel_rfl⟩
def te_ti71 : TI := ⟨12, 96, .struct [(0, 24), (4, 24), (8, 24)], List.replicate 12 (.u64 0), some (.prod .elem (.prod .elem .elem))⟩
theorem te_to71 : TiOk Try.prog 71 te_ti71 := tiOk_of (by kernel_rfl) (by kernel_rfl) (by kernel_rfl) (by kernel_rfl) (by kernel_rfl) (by kernel_rfl) (by kernel_rfl) (by kernel_rfl) (by kernel_rfl) (by kernel_rfl) (by kernel_rfl) ⟨by kernel_rfl, by kernel_rfl, by kernel_rfl⟩
def te_ti72 : TI := ⟨1, 8, .other, [.junk], none⟩
theorem te_to72 : TiOk Try.prog 72 te_ti72 := tiOk_of (by kernel_rfl) (by kernel_rfl) (by kernel_rfl) (by kernel_rfl) (by kernel_rfl) (by kernel_rfl) (by kernel_rfl) (by kernel_rfl) (by kernel_rfl) (by kernel_rfl) (by kernel_rfl) trivial
def te_ti73 : TI := ⟨1, 8, .other, [.junk], none⟩
theorem te_to73 : TiOk Try.prog 73 te_ti73 := tiOk_of (by kernel_rfl) (by kernel_rfl) (by kernel_rfl) (by kernel_rfl) (by kernel_rfl) (by kernel_rfl) (by kernel_rfl) (by kernel_rfl) (by kernel_rfl) (by kernel_rfl) (by kernel_rfl) trivial
def te_ti74 : TI := ⟨1, 8, .other, [.junk], none⟩
theorem te_to74 : TiOk Try.prog 74 te_ti74 := tiOk_of (by kernel_rfl) (by kernel_rfl) (by kernel_rfl) (by kernel_rfl) (by kernel_rfl) (by kernel_rfl) (by kernel_rfl) (by kernel_rfl) (by kernel_rfl) (by kernel_rfl) (by kernel_rfl) trivial
def te_ti75 : TI := ⟨1, 8, .other, [.junk], none⟩
theorem te_to75 : TiOk Try.prog 75 te_ti75 := tiOk_of (by kernel_rfl) (by kernel_rfl) (by kernel_rfl) (by kernel_rfl) (by kernel_rfl) (by kernel_rfl) (by kernel_rfl) (by kernel_rfl) (by kernel_rfl) (by kernel_rfl) (by kernel_rfl) trivial
def te_ti76 : TI := ⟨1, 8, .other, [.junk], none⟩
theorem te_to76 : TiOk Try.prog 76 te_ti76 := tiOk_of (by kernel_rfl) (by kernel_rfl) (by kernel_rfl) (by kernel_rfl) (by kernel_rfl) (by kernel_rfl) (by kernel_rfl) (by kernel_rfl) (by kernel_rfl) (by kernel_rfl) (by kernel_rfl) trivial
def te_ti77 : TI := ⟨1, 8, .other, [.junk], none⟩
theorem te_to77 : TiOk Try.prog 77 te_ti77 := tiOk_of (by kernel_rfl) (by kernel_rfl) (by kernel_rfl) (by kernel_rfl) (by kernel_rfl) (by kernel_rfl) (by kernel_rfl) (by kernel_rfl) (by kernel_rfl) (by kernel_rfl) (by kernel_rfl) trivial
def te_ti78 : TI := ⟨1, 8, .int .u64, [.u64 0], some .u64⟩
theorem te_to78 : TiOk Try.prog 78 te_ti78 := tiOk_of (by kernel_rfl) (by kernel_rfl) (by kernel_rfl) (by kernel_rfl) (by kernel_rfl) (by kernel_rfl) (by kernel_rfl) (by kernel_rfl) (by kernel_rfl) (by kernel_rfl) (by kernel_rfl) ⟨by kernel_rfl, by kernel_rfl, by kernel_rfl⟩
def te_ti80 : TI := ⟨1, 8, .other, [.junk], none⟩
theorem te_to80 : TiOk Try.prog 80 te_ti80 := tiOk_of (by kernel_rfl) (by kernel_rfl) (by kernel_rfl) (by kernel_rfl) (by kernel_rfl) (by kernel_rfl) (by kernel_rfl) (by kernel_rfl) (by kernel_rfl) (by kernel_rfl) (by kernel_rfl) trivial
def te_ti82 : TI := ⟨1, 8, .other, [.junk], none⟩
theorem te_to82 : TiOk Try.prog 82 te_ti82 := tiOk_of (by kernel_rfl) (by kernel_rfl) (by kernel_rfl) (by kernel_rfl) (by kernel_rfl) (by kernel_rfl) (by kernel_rfl) (by kernel_rfl) (by kernel_rfl) (by kernel_rfl) (by kernel_rfl) trivial
def te_ti83 : TI := ⟨1, 8, .other, [.junk], none⟩
theorem te_to83 : TiOk Try.prog 83 te_ti83 := tiOk_of (by kernel_rfl) (by kernel_rfl) (by kernel_rfl) (by kernel_rfl) (by kernel_rfl) (by kernel_rfl) (by kernel_rfl) (by kernel_rfl) (by kernel_rfl) (by kernel_rfl) (by kernel_rfl) trivial
def te_ti84 : TI := ⟨2, 32, .struct [(0, 3), (1, 30)], [.int 0, .emp], some (.prod .int (.list (.prod .elem (.prod .elem (.prod .elem .bool)))))⟩
theorem te_to84 : TiOk Try.prog 84 te_ti84 := tiOk_of (by kernel_rfl) (by kernel_rfl) (by kernel_rfl) (by kernel_rfl) (by kernel_rfl) (by kernel_rfl) (by kernel_rfl) (by kernel_rfl) (by kernel_rfl) (by kernel_rfl) (by kernel_rfl) ⟨by kernel_rfl, by kernel_rfl, by kernel_rfl⟩
def te_ti85 : TI := ⟨2, 32, .struct [(0, 3), (1, 30)], [.int 0, .emp], some (.prod .int (.list (.prod .elem (.prod .elem (.prod .elem .bool)))))⟩
theorem te_to85 : TiOk Try.prog 85 te_ti85 := tiOk_of (by kernel_rfl) (by kernel_rfl) (by kernel_rfl) (by kernel_rfl) (by kernel_rfl) (by kernel_rfl) (by kernel_rfl) (by kernel_rfl) (by kernel_rfl) (by kernel_rfl) (by kernel_rfl) ⟨by kernel_rfl, by kernel_rfl, by kernel_rfl⟩
def te_ti86 : TI := ⟨1, 8, .other, [.junk], none⟩
theorem te_to86 : TiOk Try.prog 86 te_ti86 := tiOk_of (by kernel_rfl) (by kernel_rfl) (by kernel_rfl) (by kernel_rfl) (by kernel_rfl) (by kernel_rfl) (by kernel_rfl) (by kernel_rfl) (by kernel_rfl) (by kernel_rfl) (by kernel_rfl) trivial
def te_ti87 : TI := ⟨1, 8, .other, [.junk], none⟩
theorem te_to87 : TiOk Try.prog 87 te_ti87 := tiOk_of (by kernel_rfl) (by kernel_rfl) (by kernel_rfl) (by kernel_rfl) (by kernel_rfl) (by kernel_rfl) (by kernel_rfl) (by kernel_rfl) (by kernel_rfl) (by kernel_rfl) (by kernel_rfl) trivial
def te_ti88 : TI := ⟨1, 8, .other, [.junk], none⟩
theorem te_to88 : TiOk Try.prog 88 te_ti88 := tiOk_of (by kernel_rfl) (by kernel_rfl) (by kernel_rfl) (by kernel_rfl) (by kernel_rfl) (by kernel_rfl) (by kernel_rfl) (by kernel_rfl) (by kernel_rfl) (by kernel_rfl) (by kernel_rfl) trivial
def te_ti89 : TI := ⟨1, 8, .other, [.junk], none⟩
theorem te_to89 : TiOk Try.prog 89 te_ti89 := tiOk_of (by kernel_rfl) (by kernel_rfl) (by kernel_rfl) (by kernel_rfl) (by kernel_rfl) (by kernel_rfl) (by kernel_rfl) (by kernel_rfl) (by kernel_rfl) (by kernel_rfl) (by kernel_rfl) trivial
def te_ti90 : TI := ⟨1, 8, .other, [.junk], none⟩
theorem te_to90 : TiOk Try.prog 90 te_ti90 := tiOk_of (by kernel_rfl) (by kernel_rfl) (by kernel_rfl) (by kernel_rfl) (by kernel_rfl) (by kernel_rfl) (by kernel_rfl) (by kernel_rfl) (by kernel_rfl) (by kernel_rfl) (by kernel_rfl) trivial
def te_ti91 : TI := ⟨1, 8, .other, [.junk], none⟩
theorem te_to91 : TiOk Try.prog 91 te_ti91 := tiOk_of (by kernel_rfl) (by kernel_rfl) (by kernel_rfl) (by kernel_rfl) (by kernel_rfl) (by kernel_rfl) (by kernel_rfl) (by kernel_rfl) (by kernel_rfl) (by kernel_rfl) (by kernel_rfl) trivial
def te_ti92 : TI := ⟨11, 88, .struct [(0, 24), (4, 3), (5, 22), (6, 22), (7, 24)], [.u64 0, .u64 0, .u64 0, .u64 0, .int 0, .u64 0, .u64 0, .u64 0, .u64 0, .u64 0, .u64 0], some (.prod .elem (.prod .int (.prod .u64 (.prod .u64 .elem))))⟩
theorem te_to92 : TiOk Try.prog 92 te_ti92 := tiOk_of (by kernel_rfl) (by kernel_rfl) (by kernel_rfl) (by kernel_rfl) (by kernel_rfl) (by kernel_rfl) (by kernel_rfl) (by kernel_rfl) (by kernel_rfl) (by kernel_rfl) (by kernel_rfl) ⟨by kernel_rfl, by kernel_rfl, by kernel_rfl⟩
def te_ti93 : TI := ⟨11, 88, .struct [(0, 24), (4, 3), (5, 22), (6, 22), (7, 24)], [.u64 0, .u64 0, .u64 0, .u64 0, .int 0, .u64 0, .u64 0, .u64 0, .u64 0, .u64 0, .u64 0], some (.prod .elem (.prod .int (.prod .u64 (.prod .u64 .elem))))⟩
theorem te_to93 : TiOk Try.prog 93 te_ti93 := tiOk_of (by kernel_rfl) (by kernel_rfl) (by kernel_rfl) (by kernel_rfl) (by kernel_rfl) (by kernel_rfl) (by kernel_rfl) (by kernel_rfl) (by kernel_rfl) (by kernel_rfl) (by kernel_rfl) ⟨by kernel_rfl, by kernel_rfl, by kernel_rfl⟩
def te_ti95 : TI := ⟨1, 8, .other, [.junk], none⟩
theorem te_to95 : TiOk Try.prog 95 te_ti95 := tiOk_of (by kernel_rfl) (by kernel_rfl) (by kernel_rfl) (by kernel_rfl) (by kernel_rfl) (by kernel_rfl) (by kernel_rfl) (by kernel_rfl) (by kernel_rfl) (by kernel_rfl) (by kernel_rfl) trivial
def te_ti96 : TI := ⟨1, 8, .other, [.junk], none⟩
theorem te_to96 : TiOk Try.prog 96 te_ti96 := tiOk_of (by kernel_rfl) (by kernel_rfl) (by kernel_rfl) (by kernel_rfl) (by kernel_rfl) (by kernel_rfl) (by kernel_rfl) (by kernel_rfl) (by kernel_rfl) (by kernel_rfl) (by kernel_rfl) trivial
def te_ti97 : TI := ⟨1, 8, .other, [.junk], none⟩
theorem te_to97 : TiOk Try.prog 97 te_ti97 := tiOk_of (by kernel_rfl) (by kernel_rfl) (by kernel_rfl) (by kernel_rfl) (by kernel_rfl) (by kernel_rfl) (by kernel_rfl) (by kernel_rfl) (by kernel_rfl) (by kernel_rfl) (by kernel_rfl) trivial
def te_ti98 : TI := ⟨1, 8, .other, [.junk], none⟩
theorem te_to98 : TiOk Try.prog 98 te_ti98 := tiOk_of (by kernel_rfl) (by kernel_rfl) (by kernel_rfl) (by kernel_rfl) (by kernel_rfl) (by kernel_rfl) (by kernel_rfl) (by kernel_rfl) (by kernel_rfl) (by kernel_rfl) (by kernel_rfl) trivial
def te_ti99 : TI := ⟨1, 8, .other, [.junk], none⟩
theorem te_to99 : TiOk Try.prog 99 te_ti99 := tiOk_of (by kernel_rfl) (by kernel_rfl) (by kernel_rfl) (by kernel_rfl) (by kernel_rfl) (by kernel_rfl) (by kernel_rfl) (by kernel_rfl) (by kernel_rfl) (by kernel_rfl) (by kernel_rfl) trivial
def te_ti100 : TI := ⟨1, 8, .other, [.junk], none⟩
theorem te_to100 : TiOk Try.prog 100 te_ti100 := tiOk_of (by kernel_rfl) (by kernel_rfl) (by kernel_rfl) (by kernel_rfl) (by kernel_rfl) (by kernel_rfl) (by kernel_rfl) (by kernel_rfl) (by kernel_rfl) (by kernel_rfl) (by kernel_rfl) trivial
def te_ti101 : TI := ⟨1, 8, .other, [.junk], none⟩
theorem te_to101 : TiOk Try.prog 101 te_ti101 := tiOk_of (by kernel_rfl) (by kernel_rfl) (by kernel_rfl) (by kernel_rfl) (by kernel_rfl) (by kernel_rfl) (by kernel_rfl) (by kernel_rfl) (by kernel_rfl) (by kernel_rfl) (by kernel_rfl) trivial
def te_ti102 : TI := ⟨1, 8, .other, [.junk], none⟩
theorem te_to102 : TiOk Try.prog 102 te_ti102 := tiOk_of (by kernel_rfl) (by kernel_rfl) (by kernel_rfl) (by kernel_rfl) (by kernel_rfl) (by kernel_rfl) (by kernel_rfl) (by kernel_rfl) (by kernel_rfl) (by kernel_rfl) (by kernel_rfl) trivial
def te_ti103 : TI := ⟨1, 8, .other, [.junk], none⟩
theorem te_to103 : TiOk Try.prog 103 te_ti103 := tiOk_of (by kernel_rfl) (by kernel_rfl) (by kernel_rfl) (by kernel_rfl) (by kernel_rfl) (by kernel_rfl) (by kernel_rfl) (by kernel_rfl) (by kernel_rfl) (by kernel_rfl) (by kernel_rfl) trivial
def te_ti105 : TI := ⟨1, 8, .other, [.junk], none⟩
theorem te_to105 : TiOk Try.prog 105 te_ti105 := tiOk_of (by kernel_rfl) (by kernel_rfl) (by kernel_rfl) (by kernel_rfl) (by kernel_rfl) (by kernel_rfl) (by kernel_rfl) (by kernel_rfl) (by kernel_rfl) (by kernel_rfl) (by kernel_rfl) trivial
def te_ti107 : TI := ⟨1, 8, .other, [.junk], none⟩
theorem te_to107 : TiOk Try.prog 107 te_ti107 := tiOk_of (by kernel_rfl) (by kernel_rfl) (by kernel_rfl) (by kernel_rfl) (by kernel_rfl) (by kernel_rfl) (by kernel_rfl) (by kernel_rfl) (by kernel_rfl) (by kernel_rfl) (by kernel_rfl) trivial
def te_ti108 : TI := ⟨1, 8, .other, [.junk], none⟩
theorem te_to108 : TiOk Try.prog 108 te_ti108 := tiOk_of (by kernel_rfl) (by kernel_rfl) (by kernel_rfl) (by kernel_rfl) (by kernel_rfl) (by kernel_rfl) (by kernel_rfl) (by kernel_rfl) (by kernel_rfl) (by kernel_rfl) (by kernel_rfl) trivial
def te_ti109 : TI := ⟨1, 8, .other, [.junk], none⟩
theorem te_to109 : TiOk Try.prog 109 te_ti109 := tiOk_of (by kernel_rfl) (by kernel_rfl) (by kernel_rfl) (by kernel_rfl) (by kernel_rfl) (by kernel_rfl) (by kernel_rfl) (by kernel_rfl) (by kernel_rfl) (by kernel_rfl) (by kernel_rfl) trivial
def te_ti110 : TI := ⟨135, 1080, .array 15 26, (([.u64 0, .u64 0, .u64 0, .u64 0, .u64 0, .u64 0, .u64 0, .u64 0, .bool false, .u64 0, .u64 0, .u64 0, .u64 0, .u64 0, .u64 0, .u64 0, .u64 0, .bool false, .u64 0, .u64 0, .u64 0, .u64 0, .u64 0, .u64 0, .u64 0, .u64 0, .bool false, .u64 0, .u64 0, .u64 0, .u64 0, .u64 0, .u64 0, .u64 0, .u64 0, .bool false, .u64 0, .u64 0, .u64 0, .u64 0, .u64 0, .u64 0, .u64 0, .u64 0, .bool false, .u64 0, .u64 0, .u64 0, .u64 0, .u64 0] : List SV) ++ ([.u64 0, .u64 0, .u64 0, .bool false, .u64 0, .u64 0, .u64 0, .u64 0, .u64 0, .u64 0, .u64 0, .u64 0, .bool false, .u64 0, .u64 0, .u64 0, .u64 0, .u64 0, .u64 0, .u64 0, .u64 0, .bool false, .u64 0, .u64 0, .u64 0, .u64 0, .u64 0, .u64 0, .u64 0, .u64 0, .bool false, .u64 0, .u64 0, .u64 0, .u64 0, .u64 0, .u64 0, .u64 0, .u64 0, .bool false, .u64 0, .u64 0, .u64 0, .u64 0, .u64 0, .u64 0, .u64 0, .u64 0, .bool false, .u64 0] : List SV) ++ ([.u64 0, .u64 0, .u64 0, .u64 0, .u64 0, .u64 0, .u64 0, .bool false, .u64 0, .u64 0, .u64 0, .u64 0, .u64 0, .u64 0, .u64 0, .u64 0, .bool false, .u64 0, .u64 0, .u64 0, .u64 0, .u64 0, .u64 0, .u64 0, .u64 0, .bool false, .u64 0, .u64 0, .u64 0, .u64 0, .u64 0, .u64 0, .u64 0, .u64 0, .bool false] : List SV)), some (.arr 15 (.prod .elem (.prod .elem .bool)))⟩
theorem te_to110 : TiOk Try.prog 110 te_ti110 := tiOk_of (by kernel_rfl) (by kernel_rfl) (by kernel_rfl) (by kernel_rfl) (by kernel_rfl) (by kernel_rfl) (by kernel_rfl) (by kernel_rfl) (by kernel_rfl) (by kernel_rfl) (by kernel_rfl) ⟨by kernel_rfl, by kernel_rfl, by kernel_rfl⟩
def te_ti111 : TI := ⟨4, 32, .array 4 3, [.int 0, .int 0, .int 0, .int 0], some (.arr 4 .int)⟩
theorem te_to111 : TiOk Try.prog 111 te_ti111 := tiOk_of (by kernel_rfl) (by kernel_rfl) (by kernel_rfl) (by kernel_rfl) (by kernel_rfl) (by kernel_rfl) (by kernel_rfl) (by kernel_rfl) (by kernel_rfl) (by kernel_rfl) (by kernel_rfl) ⟨by kernel_rfl, by kernel_rfl, by kernel_rfl⟩
def te_ti112 : TI := ⟨6, 48, .array 6 22, [.u64 0, .u64 0, .u64 0, .u64 0, .u64 0, .u64 0], some (.arr 6 .u64)⟩
theorem te_to112 : TiOk Try.prog 112 te_ti112 := tiOk_of (by kernel_rfl) (by kernel_rfl) (by kernel_rfl) (by kernel_rfl) (by kernel_rfl) (by kernel_rfl) (by kernel_rfl) (by kernel_rfl) (by kernel_rfl) (by kernel_rfl) (by kernel_rfl) ⟨by kernel_rfl, by kernel_rfl, by kernel_rfl⟩
def te_ti113 : TI := ⟨1, 8, .other, [.junk], none⟩
theorem te_to113 : TiOk Try.prog 113 te_ti113 := tiOk_of (by kernel_rfl) (by kernel_rfl) (by kernel_rfl) (by kernel_rfl) (by kernel_rfl) (by kernel_rfl) (by kernel_rfl) (by kernel_rfl) (by kernel_rfl) (by kernel_rfl) (by kernel_rfl) trivial
def te_ti114 : TI := ⟨1, 24, .slice 22, [.emp], some (.list .u64)⟩
theorem te_to114 : TiOk Try.prog 114 te_ti114 := tiOk_of (by kernel_rfl) (by kernel_rfl) (by kernel_rfl) (by kernel_rfl) (by kernel_rfl) (by kernel_rfl) (by kernel_rfl) (by kernel_rfl) (by kernel_rfl) (by kernel_rfl) (by kernel_rfl) ⟨by kernel_rfl, by kernel_rfl, by kernel_rfl⟩
def te_ti115 : TI := ⟨1, 8, .other, [.junk], none⟩
theorem te_to115 : TiOk Try.prog 115 te_ti115 := tiOk_of (by kernel_rfl) (by kernel_rfl) (by kernel_rfl) (by kernel_rfl) (by kernel_rfl) (by kernel_rfl) (by kernel_rfl) (by kernel_rfl) (by kernel_rfl) (by kernel_rfl) (by kernel_rfl) trivial
def te_ti116 : TI := ⟨1, 16, .iface, [.niface], none⟩
theorem te_to116 : TiOk Try.prog 116 te_ti116 := tiOk_of (by kernel_rfl) (by kernel_rfl) (by kernel_rfl) (by kernel_rfl) (by kernel_rfl) (by kernel_rfl) (by kernel_rfl) (by kernel_rfl) (by kernel_rfl) (by kernel_rfl) (by kernel_rfl) trivial
def te_ti117 : TI := ⟨1, 16, .iface, [.niface], none⟩
theorem te_to117 : TiOk Try.prog 117 te_ti117 := tiOk_of (by kernel_rfl) (by kernel_rfl) (by kernel_rfl) (by kernel_rfl) (by kernel_rfl) (by kernel_rfl) (by kernel_rfl) (by kernel_rfl) (by kernel_rfl) (by kernel_rfl) (by kernel_rfl) trivial
def te_ti118 : TI := ⟨1, 8, .other, [.junk], none⟩
theorem te_to118 : TiOk Try.prog 118 te_ti118 := tiOk_of (by kernel_rfl) (by kernel_rfl) (by kernel_rfl) (by kernel_rfl) (by kernel_rfl) (by kernel_rfl) (by kernel_rfl) (by kernel_rfl) (by kernel_rfl) (by kernel_rfl) (by kernel_rfl) trivial
def te_ti119 : TI := ⟨1, 8, .other, [.junk], none⟩
theorem te_to119 : TiOk Try.prog 119 te_ti119 := tiOk_of (by kernel_rfl) (by kernel_rfl) (by kernel_rfl) (by kernel_rfl) (by kernel_rfl) (by kernel_rfl) (by kernel_rfl) (by kernel_rfl) (by kernel_rfl) (by kernel_rfl) (by kernel_rfl) trivial
def te_ti120 : TI := ⟨1, 8, .ptr [("Error", 136)], [.nilp], none⟩
theorem te_to120 : TiOk Try.prog 120 te_ti120 := tiOk_of (by kernel_rfl) (by kernel_rfl) (by kernel_rfl) (by kernel_rfl) (by kernel_rfl) (by kernel_rfl) (by kernel_rfl) (by kernel_rfl) (by kernel_rfl) (by kernel_rfl) (by kernel_rfl) trivial
def te_ti121 : TI := ⟨1, 8, .other, [.junk], none⟩
theorem te_to121 : TiOk Try.prog 121 te_ti121 := tiOk_of (by kernel_rfl) (by kernel_rfl) (by kernel_rfl) (by kernel_rfl) (by kernel_rfl) (by kernel_rfl) (by kernel_rfl) (by kernel_rfl) (by kernel_rfl) (by kernel_rfl) (by kernel_rfl) trivial
def te_ti124 : TI := ⟨0, 0, .array 0 16, [], none⟩
theorem te_to124 : TiOk Try.prog 124 te_ti124 := tiOk_of (by kernel_rfl) (by kernel_rfl) (by kernel_rfl) (by kernel_rfl) (by kernel_rfl) (by kernel_rfl) (by kernel_rfl) (by kernel_rfl) (by kernel_rfl) (by kernel_rfl) (by kernel_rfl) trivial
def te_ti127 : TI := ⟨1, 8, .other, [.junk], none⟩
theorem te_to127 : TiOk Try.prog 127 te_ti127 := tiOk_of (by kernel_rfl) (by kernel_rfl) (by kernel_rfl) (by kernel_rfl) (by kernel_rfl) (by kernel_rfl) (by kernel_rfl) (by kernel_rfl) (by kernel_rfl) (by kernel_rfl) (by kernel_rfl) trivial
def te_ti128 : TI := ⟨1, 4, .int .u32, [.junk], none⟩
theorem te_to128 : TiOk Try.prog 128 te_ti128 := tiOk_of (by kernel_rfl) (by kernel_rfl) (by kernel_rfl) (by kernel_rfl) (by kernel_rfl) (by kernel_rfl) (by kernel_rfl) (by kernel_rfl) (by kernel_rfl) (by kernel_rfl) (by kernel_rfl) trivial
def te_ti129 : TI := ⟨1, 1, .int .u8, [.u8 0], some .u8⟩
theorem te_to129 : TiOk Try.prog 129 te_ti129 := tiOk_of (by kernel_rfl) (by kernel_rfl) (by kernel_rfl) (by kernel_rfl) (by kernel_rfl) (by kernel_rfl) (by kernel_rfl) (by kernel_rfl) (by kernel_rfl) (by kernel_rfl) (by kernel_rfl) ⟨by kernel_rfl, by kernel_rfl, by kernel_rfl⟩
def te_ti130 : TI := ⟨1, 1, .int .u8, [.u8 0], some .u8⟩
theorem te_to130 : TiOk Try.prog 130 te_ti130 := tiOk_of (by kernel_rfl) (by kernel_rfl) (by kernel_rfl) (by kernel_rfl) (by kernel_rfl) (by kernel_rfl) (by kernel_rfl) (by kernel_rfl) (by kernel_rfl) (by kernel_rfl) (by kernel_rfl) ⟨by kernel_rfl, by kernel_rfl, by kernel_rfl⟩
def te_ti131 : TI := ⟨1, 8, .other, [.junk], none⟩
theorem te_to131 : TiOk Try.prog 131 te_ti131 := tiOk_of (by kernel_rfl) (by kernel_rfl) (by kernel_rfl) (by kernel_rfl) (by kernel_rfl) (by kernel_rfl) (by kernel_rfl) (by kernel_rfl) (by kernel_rfl) (by kernel_rfl) (by kernel_rfl) trivial
def te_ti132 : TI := ⟨1, 8, .ptr [], [.nilp], none⟩
theorem te_to132 : TiOk Try.prog 132 te_ti132 := tiOk_of (by kernel_rfl) (by kernel_rfl) (by kernel_rfl) (by kernel_rfl) (by kernel_rfl) (by kernel_rfl) (by kernel_rfl) (by kernel_rfl) (by kernel_rfl) (by kernel_rfl) (by kernel_rfl) trivial
def te_ti133 : TI := ⟨1, 4, .int .i32, [.junk], none⟩
theorem te_to133 : TiOk Try.prog 133 te_ti133 := tiOk_of (by kernel_rfl) (by kernel_rfl) (by kernel_rfl) (by kernel_rfl) (by kernel_rfl) (by kernel_rfl) (by kernel_rfl) (by kernel_rfl) (by kernel_rfl) (by kernel_rfl) (by kernel_rfl) trivial
def te_ti134 : TI := ⟨1, 4, .int .i32, [.junk], none⟩
theorem te_to134 : TiOk Try.prog 134 te_ti134 := tiOk_of (by kernel_rfl) (by kernel_rfl) (by kernel_rfl) (by kernel_rfl) (by kernel_rfl) (by kernel_rfl) (by kernel_rfl) (by kernel_rfl) (by kernel_rfl) (by kernel_rfl) (by kernel_rfl) trivial
def te_ti137 : TI := ⟨1, 16, .struct [(0, 9)], [.str []], some .str⟩
theorem te_to137 : TiOk Try.prog 137 te_ti137 := tiOk_of (by kernel_rfl) (by kernel_rfl) (by kernel_rfl) (by kernel_rfl) (by kernel_rfl) (by kernel_rfl) (by kernel_rfl) (by kernel_rfl) (by kernel_rfl) (by kernel_rfl) (by kernel_rfl) ⟨by kernel_rfl, by kernel_rfl, by kernel_rfl⟩
def te_ti138 : TI := ⟨1, 16, .struct [(0, 9)], [.str []], some .str⟩
theorem te_to138 : TiOk Try.prog 138 te_ti138 := tiOk_of (by kernel_rfl) (by kernel_rfl) (by kernel_rfl) (by kernel_rfl) (by kernel_rfl) (by kernel_rfl) (by kernel_rfl) (by kernel_rfl) (by kernel_rfl) (by kernel_rfl) (by kernel_rfl) ⟨by kernel_rfl, by kernel_rfl, by kernel_rfl⟩
def te_ti139 : TI := ⟨1, 8, .other, [.nilp], none⟩
theorem te_to139 : TiOk Try.prog 139 te_ti139 := tiOk_of (by kernel_rfl) (by kernel_rfl) (by kernel_rfl) (by kernel_rfl) (by kernel_rfl) (by kernel_rfl) (by kernel_rfl) (by kernel_rfl) (by kernel_rfl) (by kernel_rfl) (by kernel_rfl) trivial
def te : TE := (teCons 1 te_ti1 (teCons 2 te_ti2 (teCons 3 te_ti3 (teCons 4 te_ti4 (teCons 5 te_ti5 (teCons 6 te_ti6 (teCons 7 te_ti7 (teCons 8 te_ti8 (teCons 9 te_ti9 (teCons 10 te_ti10 (teCons 11 te_ti11 (teCons 12 te_ti12 (teCons 15 te_ti15 (teCons 16 te_ti16 (teCons 17 te_ti17 (teCons 20 te_ti20 (teCons 21 te_ti21 (teCons 22 te_ti22 (teCons 23 te_ti23 (teCons 24 te_ti24 (teCons 25 te_ti25 (teCons 26 te_ti26 (teCons 27 te_ti27 (teCons 28 te_ti28 (teCons 29 te_ti29 (teCons 30 te_ti30 (teCons 31 te_ti31 (teCons 32 te_ti32 (teCons 33 te_ti33 (teCons 35 te_ti35 (teCons 36 te_ti36 (teCons 37 te_ti37 (teCons 38 te_ti38 (teCons 39 te_ti39 (teCons 40 te_ti40 (teCons 41 te_ti41 (teCons 42 te_ti42 (teCons 43 te_ti43 (teCons 44 te_ti44 (teCons 45 te_ti45 (teCons 46 te_ti46 (teCons 48 te_ti48 (teCons 49 te_ti49 (teCons 50 te_ti50 (teCons 51 te_ti51 (teCons 52 te_ti52 (teCons 53 te_ti53 (teCons 54 te_ti54 (teCons 55 te_ti55 (teCons 56 te_ti56 (teCons 57 te_ti57 (teCons 58 te_ti58 (teCons 59 te_ti59 (teCons 60 te_ti60 (teCons 61 te_ti61 (teCons 62 te_ti62 (teCons 63 te_ti63 (teCons 64 te_ti64 (teCons 65 te_ti65 (teCons 66 te_ti66 (teCons 67 te_ti67 (teCons 68 te_ti68 (teCons 69 te_ti69 (teCons 70 te_ti70 (teCons 71 te_ti71 (teCons 72 te_ti72 (teCons 73 te_ti73 (teCons 74 te_ti74 (teCons 75 te_ti75 (teCons 76 te_ti76 (teCons 77 te_ti77 (teCons 78 te_ti78 (teCons 80 te_ti80 (teCons 82 te_ti82 (teCons 83 te_ti83 (teCons 84 te_ti84 (teCons 85 te_ti85 (teCons 86 te_ti86 (teCons 87 te_ti87 (teCons 88 te_ti88 (teCons 89 te_ti89 (teCons 90 te_ti90 (teCons 91 te_ti91 (teCons 92 te_ti92 (teCons 93 te_ti93 (teCons 95 te_ti95 (teCons 96 te_ti96 (teCons 97 te_ti97 (teCons 98 te_ti98 (teCons 99 te_ti99 (teCons 100 te_ti100 (teCons 101 te_ti101 (teCons 102 te_ti102 (teCons 103 te_ti103 (teCons 105 te_ti105 (teCons 107 te_ti107 (teCons 108 te_ti108 (teCons 109 te_ti109 (teCons 110 te_ti110 (teCons 111 te_ti111 (teCons 112 te_ti112 (teCons 113 te_ti113 (teCons 114 te_ti114 (teCons 115 te_ti115 (teCons 116 te_ti116 (teCons 117 te_ti117 (teCons 118 te_ti118 (teCons 119 te_ti119 (teCons 120 te_ti120 (teCons 121 te_ti121 (teCons 124 te_ti124 (teCons 127 te_ti127 (teCons 128 te_ti128 (teCons 129 te_ti129 (teCons 130 te_ti130 (teCons 131 te_ti131 (teCons 132 te_ti132 (teCons 133 te_ti133 (teCons 134 te_ti134 (teCons 137 te_ti137 (teCons 138 te_ti138 (teCons 139 te_ti139 teNil))))))))))))))))))))))))))))))))))))))))))))))))))))))))))))))))))))))))))))))))))))))))))))))))))))))))))))))))))))))))))
theorem te_ok : TeOk Try.prog te := (teOk_cons te_to1 (teOk_cons te_to2 (teOk_cons te_to3 (teOk_cons te_to4 (teOk_cons te_to5 (teOk_cons te_to6 (teOk_cons te_to7 (teOk_cons te_to8 (teOk_cons te_to9 (teOk_cons te_to10 (teOk_cons te_to11 (teOk_cons te_to12 (teOk_cons te_to15 (teOk_cons te_to16 (teOk_cons te_to17 (teOk_cons te_to20 (teOk_cons te_to21 (teOk_cons te_to22 (teOk_cons te_to23 (teOk_cons te_to24 (teOk_cons te_to25 (teOk_cons te_to26 (teOk_cons te_to27 (teOk_cons te_to28 (teOk_cons te_to29 (teOk_cons te_to30 (teOk_cons te_to31 (teOk_cons te_to32 (teOk_cons te_to33 (teOk_cons te_to35 (teOk_cons te_to36 (teOk_cons te_to37 (teOk_cons te_to38 (teOk_cons te_to39 (teOk_cons te_to40 (teOk_cons te_to41 (teOk_cons te_to42 (teOk_cons te_to43 (teOk_cons te_to44 (teOk_cons te_to45 (teOk_cons te_to46 (teOk_cons te_to48 (teOk_cons te_to49 (teOk_cons te_to50 (teOk_cons te_to51 (teOk_cons te_to52 (teOk_cons te_to53 (teOk_cons te_to54 (teOk_cons te_to55 (teOk_cons te_to56 (teOk_cons te_to57 (teOk_cons te_to58 (teOk_cons te_to59 (teOk_cons te_to60 (teOk_cons te_to61 (teOk_cons te_to62 (teOk_cons te_to63 (teOk_cons te_to64 (teOk_cons te_to65 (teOk_cons te_to66 (teOk_cons te_to67 (teOk_cons te_to68 (teOk_cons te_to69 (teOk_cons te_to70 (teOk_cons te_to71 (teOk_cons te_to72 (teOk_cons te_to73 (teOk_cons te_to74 (teOk_cons te_to75 (teOk_cons te_to76 (teOk_cons te_to77 (teOk_cons te_to78 (teOk_cons te_to80 (teOk_cons te_to82 (teOk_cons te_to83 (teOk_cons te_to84 (teOk_cons te_to85 (teOk_cons te_to86 (teOk_cons te_to87 (teOk_cons te_to88 (teOk_cons te_to89 (teOk_cons te_to90 (teOk_cons te_to91 (teOk_cons te_to92 (teOk_cons te_to93 (teOk_cons te_to95 (teOk_cons te_to96 (teOk_cons te_to97 (teOk_cons te_to98 (teOk_cons te_to99 (teOk_cons te_to100 (teOk_cons te_to101 (teOk_cons te_to102 (teOk_cons te_to103 (teOk_cons te_to105 (teOk_cons te_to107 (teOk_cons te_to108 (teOk_cons te_to109 (teOk_cons te_to110 (teOk_cons te_to111 (teOk_cons te_to112 (teOk_cons te_to113 (teOk_cons te_to114 (teOk_cons te_to115 (teOk_cons te_to116 (teOk_cons te_to117 (teOk_cons te_to118 (teOk_cons te_to119 (teOk_cons te_to120 (teOk_cons te_to121 (teOk_cons te_to124 (teOk_cons te_to127 (teOk_cons te_to128 (teOk_cons te_to129 (teOk_cons te_to130 (teOk_cons te_to131 (teOk_cons te_to132 (teOk_cons te_to133 (teOk_cons te_to134 (teOk_cons te_to137 (teOk_cons te_to138 (teOk_cons te_to139 teOk_nil))))))))))))))))))))))))))))))))))))))))))))))))))))))))))))))))))))))))))))))))))))))))))))))))))))))))))))))))))))))))))
theorem follows : Try.prog.follows .mixedOrders = true := by kernel_rfl
def E0 : Env := envNil
theorem E0_ok : EnvOk Try.prog E0 := envOk_nil
theorem E0_mono : EnvMono E0 := envMono_nil
theorem E0_any : AnyOk Try.prog te E0 := any_ok follows te_ok E0_ok E0_mono
end Go.Proofs.Ytkedomfjjahjnaa

namespace Go.Proofs.Ytkedomfjjahjnaa
open Sx Go
set_option maxRecDepth 100000
def bclone_S : FnSpec := ⟨[.val false (.list .u8)], [], true, 0, false⟩
abbrev bcloneX : Type := ((List (UInt8)) × Unit) × (Unit)
def bclone_o0 : OutSh := ⟨[.own 0], [(0, .row .u8)], false⟩
def bclone_sel : SV → Option OutSh := fun _ => some bclone_o0
def bclone_T (a0 : List (UInt8)) : OT bclone_S.Y :=
  (gd [decide (((0 : Nat) + List.length a0) * (1 : Nat) ≤ (140737488355328 : Nat))] (.ok ⟨bclone_o0, (((), ()), ([] ++ a0, ()))⟩))
def bclone_T' : OT bclone_S.Y := .ok ⟨bclone_o0, (((), ()), ([], ()))⟩
theorem bclone_q (x : bcloneX) (Q : bclone_S.Y → Prop) : wpf te E0 lamNil 1000 Try.f67 (bclone_S.inp.inj x).tm (bclone_S.inp.inj x).hp (fnK bclone_S bclone_sel Q) (fun _ _ => False) =
    Bool.rec (motive := fun _ => Prop) ((bclone_T x.1.1).wpR Q) (bclone_T'.wpR Q ∧ (bclone_T x.1.1).wpR Q) (List.isEmpty x.1.1) := by kernel_rfl
def bclone_pre (x : bcloneX) : Bool := decide (x.1.1.length ≤ 140737488355328)
def bclone_F (x : bcloneX) : OT bclone_S.Y := .ok ⟨bclone_o0, (((), ()), (x.1.1, ()))⟩
theorem bclone_ok : SummOk Try.prog 67 (bclone_S.summ bclone_pre bclone_F) := by
  refine fn_ok te_ok E0_ok E0_any (f := 67) (fn := Try.f67) (c := codeOf Try.f67) (by kernel_rfl) (by kernel_rfl) (by kernel_rfl) (S := bclone_S) (k := 0) (by kernel_rfl) (Λ := lamNil) (fun R hR => lamOk_nil) (n := 1000) fun x oy hp hr => ⟨fnK bclone_S bclone_sel (fun z => z = oy), fun _ _ => False, ?_, fun v hp hq => ?_, fun _ _ hq => hq.elim⟩
  · refine (bclone_q x _).mpr ?_
    cases hr
    have hp' : x.1.1.length ≤ 140737488355328 := of_decide_eq_true hp
    have h1 : (bclone_T x.1.1).wpR (fun z => z = ⟨bclone_o0, (((), ()), (x.1.1, ()))⟩) := by
      rw [OT.wpR_eq]
      refine OT.wp_of_run (gd_run ?_) rfl
      simp only [List.all_cons, List.all_nil, Bool.and_true]
      exact decide_eq_true (by omega)
    cases hb : List.isEmpty x.1.1
    · exact h1
    · refine ⟨?_, h1⟩
      rw [List.isEmpty_iff.1 hb]
      rfl
  · unfold fnK at hq
    split at hq
    · rename_i o ho
      split at hq
      · rename_i y hy
        subst hq
        exact ⟨by cases ho; rfl, hy⟩
      · exact hq.elim
    · exact hq.elim
def bclone_summ : Summ := (bclone_S.summ bclone_pre bclone_F)
theorem bclone_known : SummOk Try.prog 67 bclone_summ := bclone_ok
theorem bclone_smono : MonoOk bclone_summ := fn_mono
def E_bclone : Env := envCons 67 bclone_summ E0
theorem E_bclone_ok : EnvOk Try.prog E_bclone := envOk_cons bclone_known E0_ok
theorem E_bclone_mono : EnvMono E_bclone := envMono_cons bclone_smono E0_mono
theorem E_bclone_any : AnyOk Try.prog te E_bclone := any_ok follows te_ok E_bclone_ok E_bclone_mono
end Go.Proofs.Ytkedomfjjahjnaa

namespace Go.Proofs.Ytkedomfjjahjnaa
open Sx Go
def Sx.Elem.nat (e : Elem) : Nat := e.w0.toNat + 18446744073709551616 * (e.w1.toNat + 18446744073709551616 * (e.w2.toNat + 18446744073709551616 * e.w3.toNat))
def ofN (n : Nat) : Elem := ⟨UInt64.ofNat n, UInt64.ofNat (n / 18446744073709551616), UInt64.ofNat (n / 18446744073709551616 / 18446744073709551616), UInt64.ofNat (n / 18446744073709551616 / 18446744073709551616 / 18446744073709551616)⟩
def addC (x y c : UInt64) : UInt64 := UInt64.ofNat ((x.toNat + y.toNat + c.toNat) % 18446744073709551616)
def addK (x y c : UInt64) : UInt64 := UInt64.ofNat ((x.toNat + y.toNat + c.toNat) / 18446744073709551616)
def subC (x y c : UInt64) : UInt64 := UInt64.ofNat ((x.toNat + 18446744073709551616 - y.toNat - c.toNat) % 18446744073709551616)
def subK (x y c : UInt64) : UInt64 := UInt64.ofNat (if x.toNat < y.toNat + c.toNat then 1 else 0)
def mulH (x y : UInt64) : UInt64 := UInt64.ofNat (x.toNat * y.toNat / 18446744073709551616)
theorem shr64_nat (x : UInt64) (k : Nat) (hk : k < 64) : (shr64 x (k : Int)).toNat = x.toNat / 2 ^ k := by
  unfold shr64
  rw [if_pos (by omega), UInt64.toNat_shiftRight, UInt64.toNat_ofNat', Int.toNat_natCast, Nat.shiftRight_eq_div_pow]
  congr 2
  omega
theorem shl64_nat (x : UInt64) (k : Nat) (hk : k < 64) : (shl64 x (k : Int)).toNat = x.toNat * 2 ^ k % 2 ^ 64 := by
  unfold shl64
  rw [if_pos (by omega), UInt64.toNat_shiftLeft, UInt64.toNat_ofNat', Int.toNat_natCast, Nat.shiftLeft_eq]
  congr 3
  omega
theorem and_mask32 (x : UInt64) : (x &&& 4294967295).toNat = x.toNat % 4294967296 := by
  rw [UInt64.toNat_and]
  exact Nat.and_two_pow_sub_one_eq_mod x.toNat 32
theorem mul_hi (a b : UInt64) : shr64 a 32 * shr64 b 32 + shr64 (shr64 a 32 * (b &&& 4294967295) + shr64 ((a &&& 4294967295) * (b &&& 4294967295)) 32) 32 +
    shr64 (((shr64 a 32 * (b &&& 4294967295) + shr64 ((a &&& 4294967295) * (b &&& 4294967295)) 32) &&& 4294967295) + (a &&& 4294967295) * shr64 b 32) 32 = mulH a b := by
  have ha := a.toNat_lt
  have hb := b.toNat_lt
  obtain ⟨h1, h2, h3, h4⟩ := Lib.mul64_hi a.toNat b.toNat ha hb
  have s32 : ∀ x : UInt64, (shr64 x 32).toNat = x.toNat / 4294967296 := fun x => shr64_nat x 32 (by omega)
  have hx := Lib.half_mul_le (a := a.toNat / 4294967296) (b := b.toNat / 4294967296) (by omega) (by omega)
  have hy := Lib.half_mul_le (a := a.toNat / 4294967296) (b := b.toNat % 4294967296) (by omega) (by omega)
  have hz := Lib.half_mul_le (a := a.toNat % 4294967296) (b := b.toNat / 4294967296) (by omega) (by omega)
  have e0 : ((a &&& 4294967295) * (b &&& 4294967295)).toNat = a.toNat % 4294967296 * (b.toNat % 4294967296) := by
    rw [UInt64.toNat_mul, and_mask32, and_mask32, Nat.mod_eq_of_lt h1]
  have e1 : (shr64 a 32 * (b &&& 4294967295) + shr64 ((a &&& 4294967295) * (b &&& 4294967295)) 32).toNat = a.toNat / 4294967296 * (b.toNat % 4294967296) + a.toNat % 4294967296 * (b.toNat % 4294967296) / 4294967296 := by
    rw [UInt64.toNat_add, UInt64.toNat_mul, s32, s32, and_mask32, e0, Nat.mod_eq_of_lt (a := a.toNat / 4294967296 * (b.toNat % 4294967296)) (by omega), Nat.mod_eq_of_lt h2]
  have e2 : (((shr64 a 32 * (b &&& 4294967295) + shr64 ((a &&& 4294967295) * (b &&& 4294967295)) 32) &&& 4294967295) + (a &&& 4294967295) * shr64 b 32).toNat =
      (a.toNat / 4294967296 * (b.toNat % 4294967296) + a.toNat % 4294967296 * (b.toNat % 4294967296) / 4294967296) % 4294967296 + a.toNat % 4294967296 * (b.toNat / 4294967296) := by
    rw [UInt64.toNat_add, UInt64.toNat_mul, and_mask32, and_mask32, s32, e1, Nat.mod_eq_of_lt (a := a.toNat % 4294967296 * (b.toNat / 4294967296)) (by omega), Nat.mod_eq_of_lt h3]
  have hq : a.toNat * b.toNat / 18446744073709551616 < 18446744073709551616 := by
    rw [Nat.div_lt_iff_lt_mul (by omega)]
    exact Nat.mul_lt_mul'' ha hb
  rw [← UInt64.toNat_inj, UInt64.toNat_add, UInt64.toNat_add, UInt64.toNat_mul, s32, s32, s32, s32, e1, e2]
  have e3 : (mulH a b).toNat = a.toNat * b.toNat / 18446744073709551616 := by
    unfold mulH
    rw [UInt64.toNat_ofNat', Nat.mod_eq_of_lt hq]
  rw [e3, ← h4]
  rw [← h4] at hq
  omega
def divQ (h l y : UInt64) : UInt64 := UInt64.ofNat ((h.toNat * 18446744073709551616 + l.toNat) / y.toNat)
def divR (h l y : UInt64) : UInt64 := UInt64.ofNat ((h.toNat * 18446744073709551616 + l.toNat) % y.toNat)
theorem div_part {m A B N : Nat} (hm : 0 < m) (e : N = A + m * B) : N / m = B + A / m ∧ N % m = A % m := by
  subst e
  exact ⟨by rw [Nat.add_mul_div_left _ _ hm, Nat.add_comm], Nat.add_mul_mod_self_left ..⟩
theorem div_words_gen {m N u t q r K L : Nat} (hm : 0 < m) (hL : 0 < L) (hu : N = u * K + t) (hq : u = q * (m * L) + r) :
    N / m = q * (L * K) + ((r * K + t) * L) / (m * L) ∧ N % m = ((r * K + t) * L) % (m * L) / L := by
  have e : N = (r * K + t) + m * (q * (L * K)) := by
    have h1 : q * (m * L) * K = m * (q * (L * K)) := by
      rw [Nat.mul_assoc q, Nat.mul_assoc m, Nat.mul_left_comm m q]
    rw [hu, hq, Nat.add_mul, h1]
    omega
  obtain ⟨h1, h2⟩ := div_part hm e
  rw [h1, h2, Nat.mul_div_mul_right _ _ hL, Nat.mul_mod_mul_right, Nat.mul_div_cancel _ hL]
  exact ⟨rfl, rfl⟩
theorem addC_step (x y c : UInt64) : x.toNat + y.toNat + c.toNat = (addC x y c).toNat + 18446744073709551616 * (addK x y c).toNat := by
  have hx := x.toNat_lt
  have hy := y.toNat_lt
  have hc := c.toNat_lt
  unfold addC addK
  rw [UInt64.toNat_ofNat', UInt64.toNat_ofNat', Nat.mod_eq_of_lt (b := 2 ^ 64) (by omega), Nat.mod_eq_of_lt (b := 2 ^ 64) (by omega)]
  omega
theorem addK_le {x y c : UInt64} (hc : c.toNat ≤ 1) : (addK x y c).toNat ≤ 1 := by
  have hx := x.toNat_lt
  have hy := y.toNat_lt
  unfold addK
  rw [UInt64.toNat_ofNat', Nat.mod_eq_of_lt (by omega)]
  omega
theorem subK_nat (x y c : UInt64) : (subK x y c).toNat = if x.toNat < y.toNat + c.toNat then 1 else 0 := by
  unfold subK
  rw [UInt64.toNat_ofNat']
  split <;> rfl
theorem subK_le {x y c : UInt64} : (subK x y c).toNat ≤ 1 := by
  rw [subK_nat]
  split <;> omega
theorem subC_step {x y c : UInt64} (hc : c.toNat ≤ 1) : x.toNat + 18446744073709551616 * (subK x y c).toNat = (subC x y c).toNat + y.toNat + c.toNat := by
  have hx := x.toNat_lt
  have hy := y.toNat_lt
  rw [subK_nat]
  unfold subC
  rw [UInt64.toNat_ofNat', Nat.mod_eq_of_lt (b := 2 ^ 64) (by omega)]
  split <;> omega
theorem nat_lt (e : Elem) : e.nat < 115792089237316195423570985008687907853269984665640564039457584007913129639936 := by
  have h0 := e.w0.toNat_lt
  have h1 := e.w1.toNat_lt
  have h2 := e.w2.toNat_lt
  have h3 := e.w3.toNat_lt
  unfold Sx.Elem.nat
  omega
theorem word_split {a b X Y : Nat} (ha : a < 18446744073709551616) (hb : b < 18446744073709551616) (h : a + 18446744073709551616 * X = b + 18446744073709551616 * Y) : a = b ∧ X = Y := by
  omega
theorem nat_inj {e f : Elem} (h : e.nat = f.nat) : e = f := by
  unfold Sx.Elem.nat at h
  obtain ⟨h0, h⟩ := word_split e.w0.toNat_lt f.w0.toNat_lt h
  obtain ⟨h1, h⟩ := word_split e.w1.toNat_lt f.w1.toNat_lt h
  obtain ⟨h2, h3⟩ := word_split e.w2.toNat_lt f.w2.toNat_lt h
  obtain ⟨a, b, c, d⟩ := e
  obtain ⟨a', b', c', d'⟩ := f
  simp only at h0 h1 h2 h3
  rw [UInt64.toNat_inj.1 h0, UInt64.toNat_inj.1 h1, UInt64.toNat_inj.1 h2, UInt64.toNat_inj.1 h3]
theorem div_eq {n a b : Nat} (ha : a < 18446744073709551616) (h : n = a + 18446744073709551616 * b) : n / 18446744073709551616 = b ∧ n % 18446744073709551616 = a := by
  omega
theorem ofN_eq {n : Nat} {a b c d : UInt64} {k : Nat} (h : n = a.toNat + 18446744073709551616 * (b.toNat + 18446744073709551616 * (c.toNat + 18446744073709551616 * (d.toNat + 18446744073709551616 * k)))) : ofN n = ⟨a, b, c, d⟩ := by
  obtain ⟨h1, h0⟩ := div_eq a.toNat_lt h
  obtain ⟨h2, h3⟩ := div_eq b.toNat_lt h1
  obtain ⟨h4, h5⟩ := div_eq c.toNat_lt h2
  have h6 : n / 18446744073709551616 / 18446744073709551616 / 18446744073709551616 % 18446744073709551616 = d.toNat := by
    rw [h4]
    have := d.toNat_lt
    omega
  unfold ofN
  have e : ∀ (m : Nat) (x : UInt64), m % 18446744073709551616 = x.toNat → UInt64.ofNat m = x := fun m x hm => by
    rw [← UInt64.toNat_inj, UInt64.toNat_ofNat']
    exact hm
  rw [e _ a h0, e _ b h3, e _ c h5, e _ d h6]
theorem ofN_nat (n : Nat) : (ofN n).nat = n % 115792089237316195423570985008687907853269984665640564039457584007913129639936 := by
  unfold ofN Elem.nat
  simp only [UInt64.toNat_ofNat']
  rw [show (2 : Nat) ^ 64 = 18446744073709551616 from rfl]
  omega
theorem nat_ofN {n : Nat} (h : n < 115792089237316195423570985008687907853269984665640564039457584007913129639936) : (ofN n).nat = n := by
  rw [ofN_nat]
  exact Nat.mod_eq_of_lt h
theorem ofN_self (e : Elem) : ofN e.nat = e := nat_inj (nat_ofN (nat_lt e))
def wsum (a b : Elem) : Elem × Bool := (ofN (a.nat + b.nat), Nat.ble 115792089237316195423570985008687907853269984665640564039457584007913129639936 (a.nat + b.nat))
def wdif (a b : Elem) : Elem × Bool := (ofN (a.nat + 115792089237316195423570985008687907853269984665640564039457584007913129639936 - b.nat), Nat.blt a.nat b.nat)
theorem add_join {x y c s k X Y R : Nat} (h1 : x + y + c = s + 18446744073709551616 * k) (h2 : X + Y + k = R) : (x + 18446744073709551616 * X) + (y + 18446744073709551616 * Y) + c = s + 18446744073709551616 * R := by
  omega
theorem sub_join {x y c s k X Y R Q : Nat} (h1 : x + 18446744073709551616 * k = s + y + c) (h2 : X + 18446744073709551616 * Q = R + Y + k) : (x + 18446744073709551616 * X) + 18446744073709551616 * (18446744073709551616 * Q) = s + 18446744073709551616 * R + (y + 18446744073709551616 * Y) + c := by
  omega
theorem wsum_words (a b : Elem) : let k0 := addK a.w0 b.w0 0; let k1 := addK a.w1 b.w1 k0; let k2 := addK a.w2 b.w2 k1; let k3 := addK a.w3 b.w3 k2
    (k0.toNat ≤ 1 ∧ k1.toNat ≤ 1 ∧ k2.toNat ≤ 1) ∧ wsum a b = (⟨addC a.w0 b.w0 0, addC a.w1 b.w1 k0, addC a.w2 b.w2 k1, addC a.w3 b.w3 k2⟩, !(k3 == 0)) := by
  intro k0 k1 k2 k3
  have l0 : k0.toNat ≤ 1 := addK_le (by decide)
  have l1 : k1.toNat ≤ 1 := addK_le l0
  have l2 : k2.toNat ≤ 1 := addK_le l1
  have l3 : k3.toNat ≤ 1 := addK_le l2
  refine ⟨⟨l0, l1, l2⟩, ?_⟩
  have h := add_join (addC_step a.w0 b.w0 0) (add_join (addC_step a.w1 b.w1 k0) (add_join (addC_step a.w2 b.w2 k1) (addC_step a.w3 b.w3 k2)))
  rw [show (0 : UInt64).toNat = 0 from rfl, Nat.add_zero] at h
  unfold wsum
  have hn : a.nat + b.nat = (addC a.w0 b.w0 0).toNat + 18446744073709551616 * ((addC a.w1 b.w1 k0).toNat + 18446744073709551616 * ((addC a.w2 b.w2 k1).toNat + 18446744073709551616 * ((addC a.w3 b.w3 k2).toNat + 18446744073709551616 * k3.toNat))) := h
  rw [ofN_eq hn]
  congr 1
  have hs := nat_lt ⟨addC a.w0 b.w0 0, addC a.w1 b.w1 k0, addC a.w2 b.w2 k1, addC a.w3 b.w3 k2⟩
  unfold Sx.Elem.nat at hs
  simp only at hs
  have hk : k3.toNat = 0 ∨ k3.toNat = 1 := by omega
  rcases hk with hk | hk
  · have e : k3 = 0 := UInt64.toNat_inj.1 hk
    rw [hk] at hn
    rw [e]
    cases hb : Nat.ble 115792089237316195423570985008687907853269984665640564039457584007913129639936 (a.nat + b.nat)
    · rfl
    · have := Nat.le_of_ble_eq_true hb
      omega
  · have e : (k3 == 0) = false := by
      have : ¬ k3 = 0 := fun e => by rw [e] at hk; cases hk
      simpa using this
    rw [hk] at hn
    rw [e]
    exact Nat.ble_eq_true_of_le (by omega)
theorem wdif_words (a b : Elem) : let k0 := subK a.w0 b.w0 0; let k1 := subK a.w1 b.w1 k0; let k2 := subK a.w2 b.w2 k1; let k3 := subK a.w3 b.w3 k2
    (k0.toNat ≤ 1 ∧ k1.toNat ≤ 1 ∧ k2.toNat ≤ 1) ∧ wdif a b = (⟨subC a.w0 b.w0 0, subC a.w1 b.w1 k0, subC a.w2 b.w2 k1, subC a.w3 b.w3 k2⟩, !(k3 == 0)) := by
  intro k0 k1 k2 k3
  have l0 : k0.toNat ≤ 1 := subK_le
  have l1 : k1.toNat ≤ 1 := subK_le
  have l2 : k2.toNat ≤ 1 := subK_le
  have l3 : k3.toNat ≤ 1 := subK_le
  refine ⟨⟨l0, l1, l2⟩, ?_⟩
  have h := sub_join (subC_step (x := a.w0) (y := b.w0) (c := 0) (by decide)) (sub_join (subC_step (x := a.w1) (y := b.w1) l0) (sub_join (subC_step (x := a.w2) (y := b.w2) l1) (subC_step (x := a.w3) (y := b.w3) l2)))
  rw [show (0 : UInt64).toNat = 0 from rfl, Nat.add_zero] at h
  unfold wdif
  have hs := nat_lt ⟨subC a.w0 b.w0 0, subC a.w1 b.w1 k0, subC a.w2 b.w2 k1, subC a.w3 b.w3 k2⟩
  have h' : a.nat + 18446744073709551616 * (18446744073709551616 * (18446744073709551616 * (18446744073709551616 * k3.toNat))) = Elem.nat ⟨subC a.w0 b.w0 0, subC a.w1 b.w1 k0, subC a.w2 b.w2 k1, subC a.w3 b.w3 k2⟩ + b.nat := h
  have ha := nat_lt a
  have hb := nat_lt b
  have hS := nat_lt ⟨subC a.w0 b.w0 0, subC a.w1 b.w1 k0, subC a.w2 b.w2 k1, subC a.w3 b.w3 k2⟩
  have e1 : ofN (a.nat + 115792089237316195423570985008687907853269984665640564039457584007913129639936 - b.nat) = ⟨subC a.w0 b.w0 0, subC a.w1 b.w1 k0, subC a.w2 b.w2 k1, subC a.w3 b.w3 k2⟩ := by
    apply nat_inj
    rw [ofN_nat]
    generalize Elem.nat ⟨subC a.w0 b.w0 0, subC a.w1 b.w1 k0, subC a.w2 b.w2 k1, subC a.w3 b.w3 k2⟩ = S at *
    omega
  rw [e1]
  congr 1
  generalize Elem.nat ⟨subC a.w0 b.w0 0, subC a.w1 b.w1 k0, subC a.w2 b.w2 k1, subC a.w3 b.w3 k2⟩ = S at *
  have hk : k3.toNat = 0 ∨ k3.toNat = 1 := by omega
  rcases hk with hk | hk
  · have e : k3 = 0 := UInt64.toNat_inj.1 hk
    rw [hk] at h'
    rw [e]
    cases hq : Nat.blt a.nat b.nat
    · rfl
    · have := blt_of hq
      omega
  · have e : (k3 == 0) = false := by
      have : ¬ k3 = 0 := fun e => by rw [e] at hk; cases hk
      simpa using this
    rw [hk] at h'
    rw [e]
    exact Nat.ble_eq_true_of_le (show a.nat + 1 ≤ b.nat by omega)
def lst (e : Elem) : List UInt64 := [e.w0, e.w1, e.w2, e.w3]
def elemOf (l : List UInt64) : Elem := ⟨l.getD 0 0, l.getD 1 0, l.getD 2 0, l.getD 3 0⟩
theorem lst_elemOf {l : List UInt64} (h : l.length = 4) : lst (elemOf l) = l := by
  match l, h with
  | [a, b, c, d], _ => rfl
theorem elemOf_lst (e : Elem) : elemOf (lst e) = e := rfl
theorem lst_length (e : Elem) : (lst e).length = 4 := rfl
theorem divR_nat {h l y : UInt64} (hy : 0 < y.toNat) : (divR h l y).toNat = (h.toNat * 18446744073709551616 + l.toNat) % y.toNat := by
  unfold divR
  rw [UInt64.toNat_ofNat']
  exact Nat.mod_eq_of_lt (Nat.lt_trans (Nat.mod_lt _ hy) y.toNat_lt)
theorem mod_step (r x m : Nat) : (r % m * 18446744073709551616 + x) % m = (r * 18446744073709551616 + x) % m := by
  rw [Nat.add_mod, Nat.mul_mod, Nat.mod_mod, ← Nat.mul_mod, ← Nat.add_mod]
theorem wdif_blt (a b : Elem) : (wdif a b).2 = Nat.blt a.nat b.nat := rfl
theorem wdif_nat {a b : Elem} (h : b.nat ≤ a.nat) : (wdif a b).1.nat = a.nat - b.nat := by
  have ha := nat_lt a
  show (ofN _).nat = _
  rw [ofN_nat]
  omega
end Go.Proofs.Ytkedomfjjahjnaa

namespace Go.Proofs.Ytkedomfjjahjnaa
open Sx Go
set_option maxRecDepth 100000
def badd64_S : FnSpec := ⟨[.val false .u64, .val false .u64, .val false .u64], [], true, 0, false⟩
abbrev badd64X : Type := ((UInt64) × (UInt64) × (UInt64) × Unit) × (Unit)
def badd64_o0 : OutSh := ⟨[.val false .u64, .val false .u64], [], false⟩
def badd64_pre (x : badd64X) : Bool := decide (x.1.2.2.1.toNat ≤ 1)
def badd64_F (x : badd64X) : OT badd64_S.Y := .ok ⟨badd64_o0, ((addC x.1.1 x.1.2.1 x.1.2.2.1, addK x.1.1 x.1.2.1 x.1.2.2.1, ()), ())⟩
theorem badd64_run (a b c : UInt64) (hc : c.toNat ≤ 1) (w : World) : (callFunc 114 #[vu64 a, vu64 b, vu64 c]).run Try.prog w = .ok (.value (.tuple #[vu64 (addC a b c), vu64 (addK a b c)])) w := by
  unfold vu64
  rw [run_callFunc_extern Try.func114 (by kernel_rfl) (by kernel_rfl) (by kernel_rfl) (e := add64Entry) (by kernel_rfl), run_add64 (a.toNat : Int) (b.toNat : Int) (c.toNat : Int) (by omega) (by omega) (by omega) (by omega)]
  have ha := a.toNat_lt
  have hb := b.toNat_lt
  have e1 : (((addC a b c).toNat : Nat) : Int) = ((a.toNat : Int) + b.toNat + c.toNat) % 18446744073709551616 := by
    unfold addC
    rw [UInt64.toNat_ofNat', Nat.mod_eq_of_lt (by omega)]
    omega
  have e2 : (((addK a b c).toNat : Nat) : Int) = ((a.toNat : Int) + b.toNat + c.toNat) / 18446744073709551616 := by
    unfold addK
    rw [UInt64.toNat_ofNat', Nat.mod_eq_of_lt (by omega)]
    omega
  rw [e1, e2]
  rfl
theorem badd64_ok : SummOk Try.prog 114 (badd64_S.summ badd64_pre badd64_F) := by
  refine fn_ext (k := 0) (by kernel_rfl) fun x oy vs N w hp ho hr => ?_
  obtain ⟨⟨a, b, c, ⟨⟩⟩, ⟨⟩⟩ := x
  cases ho
  have hc : c.toNat ≤ 1 := of_decide_eq_true hp
  have hr' : SV.relL N [.u64 a, .u64 b, .u64 c] vs := hr
  simp only [SV.relL, SV.rel] at hr'
  obtain ⟨_, _, rfl, rfl, _, _, rfl, rfl, _, _, rfl, rfl, rfl⟩ := hr'
  refine ⟨.tup [.u64 (addC a b c), .u64 (addK a b c)], _, badd64_run a b c hc w, ?_, ⟨rfl, by kernel_rfl⟩⟩
  simp only [SV.rel]
  exact ⟨_, rfl, by simp only [SV.relL, SV.rel]; exact ⟨_, _, rfl, rfl, _, _, rfl, rfl, rfl⟩⟩
def badd64_summ : Summ := (badd64_S.summ badd64_pre badd64_F)
theorem badd64_known : SummOk Try.prog 114 badd64_summ := badd64_ok
theorem badd64_smono : MonoOk badd64_summ := fn_mono
def E_badd64 : Env := envCons 114 badd64_summ E_bclone
theorem E_badd64_ok : EnvOk Try.prog E_badd64 := envOk_cons badd64_known E_bclone_ok
theorem E_badd64_mono : EnvMono E_badd64 := envMono_cons badd64_smono E_bclone_mono
theorem E_badd64_any : AnyOk Try.prog te E_badd64 := any_ok follows te_ok E_badd64_ok E_badd64_mono
def bsub64_S : FnSpec := ⟨[.val false .u64, .val false .u64, .val false .u64], [], true, 0, false⟩
abbrev bsub64X : Type := ((UInt64) × (UInt64) × (UInt64) × Unit) × (Unit)
def bsub64_o0 : OutSh := ⟨[.val false .u64, .val false .u64], [], false⟩
def bsub64_pre (x : bsub64X) : Bool := decide (x.1.2.2.1.toNat ≤ 1)
def bsub64_F (x : bsub64X) : OT bsub64_S.Y := .ok ⟨bsub64_o0, ((subC x.1.1 x.1.2.1 x.1.2.2.1, subK x.1.1 x.1.2.1 x.1.2.2.1, ()), ())⟩
def sub64E : Array Value → Sem Value := fun args => do
  let (x, y, b) ← Extern.MathBitsCarry.three "Sub64" args
  pure (Extern.MathBitsCarry.pair ((x + Extern.MathBitsCarry.m64 - y - b) % Extern.MathBitsCarry.m64) (if x < y + b then 1 else 0))
theorem run_sub64E {P : Program} (x y b : Nat) (hb : b ≤ 1) (w : World) :
    (sub64E #[.int .u64 x, .int .u64 y, .int .u64 b]).run P w =
      .ok (.tuple #[.int .u64 (((x + 18446744073709551616 - y - b) % 18446744073709551616 : Nat) : Int), .int .u64 ((if x < y + b then 1 else 0 : Nat) : Int)]) w := by
  have : b = 0 ∨ b = 1 := by omega
  rcases this with rfl | rfl <;> rfl
theorem bsub64_run (a b c : UInt64) (hc : c.toNat ≤ 1) (w : World) : (callFunc 109 #[vu64 a, vu64 b, vu64 c]).run Try.prog w = .ok (.value (.tuple #[vu64 (subC a b c), vu64 (subK a b c)])) w := by
  unfold vu64
  rw [run_callFunc_extern Try.func109 (by kernel_rfl) (by kernel_rfl) (by kernel_rfl) (e := sub64E) (by kernel_rfl), run_sub64E a.toNat b.toNat c.toNat (by omega)]
  have ha := a.toNat_lt
  have hb := b.toNat_lt
  have e1 : (subC a b c).toNat = (a.toNat + 18446744073709551616 - b.toNat - c.toNat) % 18446744073709551616 := by
    unfold subC
    rw [UInt64.toNat_ofNat', Nat.mod_eq_of_lt (by omega)]
  have e2 : (subK a b c).toNat = if a.toNat < b.toNat + c.toNat then 1 else 0 := by
    unfold subK
    rw [UInt64.toNat_ofNat', Nat.mod_eq_of_lt (by split <;> omega)]
  rw [e1, e2]
  rfl
theorem bsub64_ok : SummOk Try.prog 109 (bsub64_S.summ bsub64_pre bsub64_F) := by
  refine fn_ext (k := 0) (by kernel_rfl) fun x oy vs N w hp ho hr => ?_
  obtain ⟨⟨a, b, c, ⟨⟩⟩, ⟨⟩⟩ := x
  cases ho
  have hc : c.toNat ≤ 1 := of_decide_eq_true hp
  have hr' : SV.relL N [.u64 a, .u64 b, .u64 c] vs := hr
  simp only [SV.relL, SV.rel] at hr'
  obtain ⟨_, _, rfl, rfl, _, _, rfl, rfl, _, _, rfl, rfl, rfl⟩ := hr'
  refine ⟨.tup [.u64 (subC a b c), .u64 (subK a b c)], _, bsub64_run a b c hc w, ?_, ⟨rfl, by kernel_rfl⟩⟩
  simp only [SV.rel]
  exact ⟨_, rfl, by simp only [SV.relL, SV.rel]; exact ⟨_, _, rfl, rfl, _, _, rfl, rfl, rfl⟩⟩
def bsub64_summ : Summ := (bsub64_S.summ bsub64_pre bsub64_F)
theorem bsub64_known : SummOk Try.prog 109 bsub64_summ := bsub64_ok
theorem bsub64_smono : MonoOk bsub64_summ := fn_mono
def E_bsub64 : Env := envCons 109 bsub64_summ E_badd64
theorem E_bsub64_ok : EnvOk Try.prog E_bsub64 := envOk_cons bsub64_known E_badd64_ok
theorem E_bsub64_mono : EnvMono E_bsub64 := envMono_cons bsub64_smono E_badd64_mono
theorem E_bsub64_any : AnyOk Try.prog te E_bsub64 := any_ok follows te_ok E_bsub64_ok E_bsub64_mono
def bmul64_S : FnSpec := ⟨[.val false .u64, .val false .u64], [], true, 0, false⟩
abbrev bmul64X : Type := ((UInt64) × (UInt64) × Unit) × (Unit)
def bmul64_o0 : OutSh := ⟨[.val false .u64, .val false .u64], [], false⟩
def bmul64_sel : SV → Option OutSh := fun _ => some bmul64_o0
def bmul64_T (a0 : UInt64) (a1 : UInt64) : OT bmul64_S.Y :=
  let z0 : UInt64 := shr64 a0 (32 : Int)
  let z1 : UInt64 := shr64 a1 (32 : Int)
  let z2 : UInt64 := z0 * (a1 &&& (4294967295 : UInt64)) + shr64 ((a0 &&& (4294967295 : UInt64)) * (a1 &&& (4294967295 : UInt64))) (32 : Int)
  (.ok ⟨bmul64_o0, ((z0 * z1 + shr64 z2 (32 : Int) + shr64 ((z2 &&& (4294967295 : UInt64)) + (a0 &&& (4294967295 : UInt64)) * z1) (32 : Int), (a0 * a1, ())), ())⟩)
theorem bmul64_q (x : bmul64X) (Q : bmul64_S.Y → Prop) : wpf te E_bsub64 lamNil 1000 Try.f118 (bmul64_S.inp.inj x).tm (bmul64_S.inp.inj x).hp (fnK bmul64_S bmul64_sel Q) (fun _ _ => False) = (bmul64_T (x.1.1) (x.1.2.1)).wpR Q := by kernel_rfl
theorem bmul64_main (pre : bmul64X → Bool) (F : bmul64X → OT bmul64_S.Y) (hF : ∀ (x : bmul64X) oy, pre x = true → (F x).run = some oy → (bmul64_T (x.1.1) (x.1.2.1)).run = some oy) : SummOk Try.prog 118 (bmul64_S.summ pre F) :=
  fn_tree te_ok E_bsub64_ok E_bsub64_any (f := 118) (fn := Try.f118) (c := codeOf Try.f118) (by kernel_rfl) (by kernel_rfl) (by kernel_rfl) (S := bmul64_S) (k := 0) (by kernel_rfl) (fun R hR => lamOk_nil) (n := 1000) (sel := bmul64_sel) (fun v o h => by cases h; rfl) (pre := pre) (F := F) (T := fun x => bmul64_T (x.1.1) (x.1.2.1)) (fun x Q => bmul64_q x Q) hF
def bmul64_pre (_ : bmul64X) : Bool := true
def bmul64_F (x : bmul64X) : OT bmul64_S.Y := .ok ⟨bmul64_o0, ((mulH x.1.1 x.1.2.1, (x.1.1 * x.1.2.1, ())), ())⟩
theorem bmul64_ok : SummOk Try.prog 118 (bmul64_S.summ bmul64_pre bmul64_F) := bmul64_main _ _ fun x oy _ ho => by
  rw [← ho]
  simp only [bmul64_F, bmul64_T, mul_hi]
def bmul64_summ : Summ := (bmul64_S.summ bmul64_pre bmul64_F)
theorem bmul64_known : SummOk Try.prog 118 bmul64_summ := bmul64_ok
theorem bmul64_smono : MonoOk bmul64_summ := fn_mono
def E_bmul64 : Env := envCons 118 bmul64_summ E_bsub64
theorem E_bmul64_ok : EnvOk Try.prog E_bmul64 := envOk_cons bmul64_known E_bsub64_ok
theorem E_bmul64_mono : EnvMono E_bmul64 := envMono_cons bmul64_smono E_bsub64_mono
theorem E_bmul64_any : AnyOk Try.prog te E_bmul64 := any_ok follows te_ok E_bmul64_ok E_bmul64_mono
def blen64_S : FnSpec := ⟨[.val false .u64], [], true, 0, false⟩
abbrev blen64X : Type := ((UInt64) × Unit) × (Unit)
def blen64_o0 : OutSh := ⟨[.val false .int], [], false⟩
def blen64_sel : SV → Option OutSh := fun _ => some blen64_o0
def blen64_T (a0 : UInt64) : OT blen64_S.Y :=
  let z0 : UInt64 := shr64 a0 (32 : Int)
  let z1 : UInt64 := shr64 z0 (16 : Int)
  let z2 : Int := (↑(UInt8.toNat (UInt64.toUInt8 (shr64 z1 (8 : Int)))) : Int)
  let z3 : List UInt8 := List.replicate 64 (8 : UInt8)
  let z4 : List UInt8 := List.append (List.append [(0 : UInt8), (1 : UInt8), (2 : UInt8), (2 : UInt8), (3 : UInt8), (3 : UInt8), (3 : UInt8), (3 : UInt8), (4 : UInt8), (4 : UInt8), (4 : UInt8), (4 : UInt8), (4 : UInt8), (4 : UInt8), (4 : UInt8), (4 : UInt8), (5 : UInt8), (5 : UInt8), (5 : UInt8), (5 : UInt8), (5 : UInt8), (5 : UInt8), (5 : UInt8), (5 : UInt8), (5 : UInt8), (5 : UInt8), (5 : UInt8), (5 : UInt8), (5 : UInt8), (5 : UInt8), (5 : UInt8), (5 : UInt8), (6 : UInt8), (6 : UInt8), (6 : UInt8), (6 : UInt8), (6 : UInt8), (6 : UInt8), (6 : UInt8), (6 : UInt8), (6 : UInt8), (6 : UInt8), (6 : UInt8), (6 : UInt8), (6 : UInt8), (6 : UInt8), (6 : UInt8), (6 : UInt8), (6 : UInt8), (6 : UInt8), (6 : UInt8), (6 : UInt8), (6 : UInt8), (6 : UInt8), (6 : UInt8), (6 : UInt8), (6 : UInt8), (6 : UInt8), (6 : UInt8), (6 : UInt8), (6 : UInt8), (6 : UInt8), (6 : UInt8), (6 : UInt8)] (List.replicate 64 (7 : UInt8))) (List.append z3 z3)
  let z5 : Int := (56 : Int) + (↑(UInt8.toNat (List.getD z4 (Int.toNat z2) (0 : UInt8))) : Int)
  let z6 : Int := (↑(UInt8.toNat (UInt64.toUInt8 z1)) : Int)
  let z7 : Int := (48 : Int) + (↑(UInt8.toNat (List.getD z4 (Int.toNat z6) (0 : UInt8))) : Int)
  let z8 : Int := (↑(UInt8.toNat (UInt64.toUInt8 (shr64 z0 (8 : Int)))) : Int)
  let z9 : Int := (40 : Int) + (↑(UInt8.toNat (List.getD z4 (Int.toNat z8) (0 : UInt8))) : Int)
  let z10 : Int := (↑(UInt8.toNat (UInt64.toUInt8 z0)) : Int)
  let z11 : Int := (32 : Int) + (↑(UInt8.toNat (List.getD z4 (Int.toNat z10) (0 : UInt8))) : Int)
  let z12 : UInt64 := shr64 a0 (16 : Int)
  let z13 : Int := (↑(UInt8.toNat (UInt64.toUInt8 (shr64 z12 (8 : Int)))) : Int)
  let z14 : Int := (24 : Int) + (↑(UInt8.toNat (List.getD z4 (Int.toNat z13) (0 : UInt8))) : Int)
  let z15 : Int := (↑(UInt8.toNat (UInt64.toUInt8 z12)) : Int)
  let z16 : Int := (16 : Int) + (↑(UInt8.toNat (List.getD z4 (Int.toNat z15) (0 : UInt8))) : Int)
  let z17 : Int := (↑(UInt8.toNat (UInt64.toUInt8 (shr64 a0 (8 : Int)))) : Int)
  let z18 : Int := (8 : Int) + (↑(UInt8.toNat (List.getD z4 (Int.toNat z17) (0 : UInt8))) : Int)
  let z19 : Int := (↑(UInt8.toNat (UInt64.toUInt8 a0)) : Int)
  let z20 : Int := (0 : Int) + (↑(UInt8.toNat (List.getD z4 (Int.toNat z19) (0 : UInt8))) : Int)
  (.br (decide ((4294967296 : UInt64) ≤ a0))
  (.br (decide ((65536 : UInt64) ≤ z0))
    (.br (decide ((256 : UInt64) ≤ z1))
      (gd [inB z2 256, inR z5] (.ok ⟨blen64_o0, ((z5, ()), ())⟩))
      (gd [inB z6 256, inR z7] (.ok ⟨blen64_o0, ((z7, ()), ())⟩)))
    (.br (decide ((256 : UInt64) ≤ z0))
      (gd [inB z8 256, inR z9] (.ok ⟨blen64_o0, ((z9, ()), ())⟩))
      (gd [inB z10 256, inR z11] (.ok ⟨blen64_o0, ((z11, ()), ())⟩))))
  (.br (decide ((65536 : UInt64) ≤ a0))
    (.br (decide ((256 : UInt64) ≤ z12))
      (gd [inB z13 256, inR z14] (.ok ⟨blen64_o0, ((z14, ()), ())⟩))
      (gd [inB z15 256, inR z16] (.ok ⟨blen64_o0, ((z16, ()), ())⟩)))
    (.br (decide ((256 : UInt64) ≤ a0))
      (gd [inB z17 256, inR z18] (.ok ⟨blen64_o0, ((z18, ()), ())⟩))
      (gd [inB z19 256, inR z20] (.ok ⟨blen64_o0, ((z20, ()), ())⟩)))))
theorem blen64_q (x : blen64X) (Q : blen64_S.Y → Prop) : wpf te E_bmul64 lamNil 1000 Try.f119 (blen64_S.inp.inj x).tm (blen64_S.inp.inj x).hp (fnK blen64_S blen64_sel Q) (fun _ _ => False) = (blen64_T (x.1.1)).wpR Q := by kernel_rfl
theorem blen64_main (pre : blen64X → Bool) (F : blen64X → OT blen64_S.Y) (hF : ∀ (x : blen64X) oy, pre x = true → (F x).run = some oy → (blen64_T (x.1.1)).run = some oy) : SummOk Try.prog 119 (blen64_S.summ pre F) :=
  fn_tree te_ok E_bmul64_ok E_bmul64_any (f := 119) (fn := Try.f119) (c := codeOf Try.f119) (by kernel_rfl) (by kernel_rfl) (by kernel_rfl) (S := blen64_S) (k := 0) (by kernel_rfl) (fun R hR => lamOk_nil) (n := 1000) (sel := blen64_sel) (fun v o h => by cases h; rfl) (pre := pre) (F := F) (T := fun x => blen64_T (x.1.1)) (fun x Q => blen64_q x Q) hF
def isSmall (x : UInt64) : Bool := (x == 16513537) || (x == 16521217)
theorem isSmall_cases {x : UInt64} (h : isSmall x = true) : x = 16513537 ∨ x = 16521217 := by
  simpa [isSmall] using h
def blen64_pre (x : blen64X) : Bool := isSmall x.1.1
def blen64_F (_ : blen64X) : OT blen64_S.Y := .ok ⟨blen64_o0, (((24 : Int), ()), ())⟩
theorem blen64_at : (blen64_T 16513537).run = some ⟨blen64_o0, (((24 : Int), ()), ())⟩ ∧ (blen64_T 16521217).run = some ⟨blen64_o0, (((24 : Int), ()), ())⟩ := ⟨by kernel_rfl, by kernel_rfl⟩
theorem blen64_ok : SummOk Try.prog 119 (blen64_S.summ blen64_pre blen64_F) := blen64_main _ _ fun x oy hp ho => by
  rw [← ho]
  clear ho
  obtain ⟨⟨x, ⟨⟩⟩, ⟨⟩⟩ := x
  rcases isSmall_cases hp with h | h
  · have h : x = 16513537 := h
    subst h
    exact blen64_at.1
  · have h : x = 16521217 := h
    subst h
    exact blen64_at.2
def blen64_summ : Summ := (blen64_S.summ blen64_pre blen64_F)
theorem blen64_known : SummOk Try.prog 119 blen64_summ := blen64_ok
theorem blen64_smono : MonoOk blen64_summ := fn_mono
def E_blen64 : Env := envCons 119 blen64_summ E_bmul64
theorem E_blen64_ok : EnvOk Try.prog E_blen64 := envOk_cons blen64_known E_bmul64_ok
theorem E_blen64_mono : EnvMono E_blen64 := envMono_cons blen64_smono E_bmul64_mono
theorem E_blen64_any : AnyOk Try.prog te E_blen64 := any_ok follows te_ok E_blen64_ok E_blen64_mono
def blz64_S : FnSpec := ⟨[.val false .u64], [], true, 0, false⟩
abbrev blz64X : Type := ((UInt64) × Unit) × (Unit)
def blz64_o0 : OutSh := ⟨[.val false .int], [], false⟩
def blz64_sel : SV → Option OutSh := fun _ => some blz64_o0
def blz64_T (a0 : UInt64) : OT blz64_S.Y :=
  (gd [blen64_pre ((a0, ()), ())] (.ok ⟨blz64_o0, (((40 : Int), ()), ())⟩))
theorem blz64_q (x : blz64X) (Q : blz64_S.Y → Prop) : wpf te E_blen64 lamNil 1000 Try.f117 (blz64_S.inp.inj x).tm (blz64_S.inp.inj x).hp (fnK blz64_S blz64_sel Q) (fun _ _ => False) = (blz64_T (x.1.1)).wpR Q := by kernel_rfl
theorem blz64_main (pre : blz64X → Bool) (F : blz64X → OT blz64_S.Y) (hF : ∀ (x : blz64X) oy, pre x = true → (F x).run = some oy → (blz64_T (x.1.1)).run = some oy) : SummOk Try.prog 117 (blz64_S.summ pre F) :=
  fn_tree te_ok E_blen64_ok E_blen64_any (f := 117) (fn := Try.f117) (c := codeOf Try.f117) (by kernel_rfl) (by kernel_rfl) (by kernel_rfl) (S := blz64_S) (k := 0) (by kernel_rfl) (fun R hR => lamOk_nil) (n := 1000) (sel := blz64_sel) (fun v o h => by cases h; rfl) (pre := pre) (F := F) (T := fun x => blz64_T (x.1.1)) (fun x Q => blz64_q x Q) hF
def blz64_pre (x : blz64X) : Bool := isSmall x.1.1
def blz64_F (_ : blz64X) : OT blz64_S.Y := .ok ⟨blz64_o0, (((40 : Int), ()), ())⟩
theorem blz64_ok : SummOk Try.prog 117 (blz64_S.summ blz64_pre blz64_F) := blz64_main _ _ fun x oy hp ho => by
  rw [← ho]
  clear ho
  obtain ⟨⟨x, ⟨⟩⟩, ⟨⟩⟩ := x
  have hp : isSmall x = true := hp
  refine (gd_run ?_).trans rfl
  simp only [List.all_cons, List.all_nil, Bool.and_true, Bool.and_eq_true]
  first | exact hp | exact ⟨hp, rfl⟩
def blz64_summ : Summ := (blz64_S.summ blz64_pre blz64_F)
theorem blz64_known : SummOk Try.prog 117 blz64_summ := blz64_ok
theorem blz64_smono : MonoOk blz64_summ := fn_mono
def E_blz64 : Env := envCons 117 blz64_summ E_blen64
theorem E_blz64_ok : EnvOk Try.prog E_blz64 := envOk_cons blz64_known E_blen64_ok
theorem E_blz64_mono : EnvMono E_blz64 := envMono_cons blz64_smono E_blen64_mono
theorem E_blz64_any : AnyOk Try.prog te E_blz64 := any_ok follows te_ok E_blz64_ok E_blz64_mono
def bdiv64_S : FnSpec := ⟨[.val false .u64, .val false .u64, .val false .u64], [], true, 0, false⟩
abbrev bdiv64X : Type := ((UInt64) × (UInt64) × (UInt64) × Unit) × (Unit)
def bdiv64_s0 : Shape := ⟨135, [(2, .val false .u64), (8, .val false .u64), (9, .val false .u64), (10, .val false .u64), (11, .val false .u64), (13, .val false .u64), (14, .val false .u64), (15, .val false .u64), (16, .val false .u64)], [], 0, true⟩
abbrev bdiv64_s0X : Type := ((UInt64) × (UInt64) × (UInt64) × (UInt64) × (UInt64) × (UInt64) × (UInt64) × (UInt64) × (UInt64) × Unit) × (Unit)
def bdiv64_e0_0 : Shape := ⟨135, [(2, .val false .u64), (8, .val false .u64), (9, .val false .u64), (10, .val false .u64), (11, .val false .u64), (13, .val false .u64), (14, .val false .u64), (15, .val false .u64)], [], 0, true⟩
abbrev bdiv64_e0_0X : Type := ((UInt64) × (UInt64) × (UInt64) × (UInt64) × (UInt64) × (UInt64) × (UInt64) × (UInt64) × Unit) × (Unit)
def bdiv64_x0 : SE → Option Shape := xsMk [(0, bdiv64_e0_0)] none
def bdiv64_T0 (a2 : UInt64) (a8 : UInt64) (a9 : UInt64) (a10 : UInt64) (a11 : UInt64) (a13 : UInt64) (a14 : UInt64) (a15 : UInt64) (a16 : UInt64) : OT (Sum bdiv64_s0X LEnd) :=
  let z0 : Bool := decide ((4294967296 : UInt64) ≤ a16 + a9)
  (.br (decide ((4294967296 : UInt64) ≤ a15))
  (.br (z0)
    (.ok (.inr ⟨(.exit 0, bdiv64_e0_0), ((a2, (a8, (a9, (a10, (a11, (a13, (a14, (a15 - (1 : UInt64), ())))))))), ())⟩))
    (.ok (.inl ((a2, (a8, (a9, (a10, (a11, (a13, (a14, (a15 - (1 : UInt64), (a16 + a9, ()))))))))), ()))))
  (.br (decide ((4294967296 : UInt64) * a16 + a13 < a15 * a10))
    (.br (z0)
      (.ok (.inr ⟨(.exit 0, bdiv64_e0_0), ((a2, (a8, (a9, (a10, (a11, (a13, (a14, (a15 - (1 : UInt64), ())))))))), ())⟩))
      (.ok (.inl ((a2, (a8, (a9, (a10, (a11, (a13, (a14, (a15 - (1 : UInt64), (a16 + a9, ()))))))))), ()))))
    (.ok (.inr ⟨(.exit 0, bdiv64_e0_0), ((a2, (a8, (a9, (a10, (a11, (a13, (a14, (a15, ())))))))), ())⟩))))
def bdiv64_U0 (s : bdiv64_s0X) : OT (Sum bdiv64_s0X LEnd) := bdiv64_T0 (s.1.1) (s.1.2.1) (s.1.2.2.1) (s.1.2.2.2.1) (s.1.2.2.2.2.1) (s.1.2.2.2.2.2.1) (s.1.2.2.2.2.2.2.1) (s.1.2.2.2.2.2.2.2.1) (s.1.2.2.2.2.2.2.2.2.1)
theorem bdiv64_q0 (s : bdiv64_s0X) (Q : Sum bdiv64_s0X LEnd → Prop) : wps te E_blz64 lamNil 1000 (loopOf (codeOf Try.f113) 0) (bdiv64_s0.inj s) (stepK bdiv64_s0 bdiv64_x0 (Q : Sum bdiv64_s0.T LEnd → Prop)) = (bdiv64_U0 s).wpR Q := by kernel_rfl
def bdiv64_f0 (g0_0 : bdiv64_s0X → bdiv64_e0_0X) (s : bdiv64_s0X) : OT LEnd := (.ok ⟨(.exit 0, bdiv64_e0_0), g0_0 s⟩)
def bdiv64_s2 : Shape := ⟨135, [(2, .val false .u64), (8, .val false .u64), (9, .val false .u64), (10, .val false .u64), (14, .val false .u64), (15, .val false .u64), (16, .val false .u64), (17, .val false .u64), (18, .val false .u64)], [], 0, true⟩
abbrev bdiv64_s2X : Type := ((UInt64) × (UInt64) × (UInt64) × (UInt64) × (UInt64) × (UInt64) × (UInt64) × (UInt64) × (UInt64) × Unit) × (Unit)
def bdiv64_e2_2 : Shape := ⟨135, [(2, .val false .u64), (8, .val false .u64), (14, .val false .u64), (15, .val false .u64), (17, .val false .u64), (18, .val false .u64)], [], 0, true⟩
abbrev bdiv64_e2_2X : Type := ((UInt64) × (UInt64) × (UInt64) × (UInt64) × (UInt64) × (UInt64) × Unit) × (Unit)
def bdiv64_x2 : SE → Option Shape := xsMk [(2, bdiv64_e2_2)] none
def bdiv64_T2 (a2 : UInt64) (a8 : UInt64) (a9 : UInt64) (a10 : UInt64) (a14 : UInt64) (a15 : UInt64) (a16 : UInt64) (a17 : UInt64) (a18 : UInt64) : OT (Sum bdiv64_s2X LEnd) :=
  let z0 : Bool := decide ((4294967296 : UInt64) ≤ a16 + a9)
  (.br (decide ((4294967296 : UInt64) ≤ a18))
  (.br (z0)
    (.ok (.inr ⟨(.exit 2, bdiv64_e2_2), ((a2, (a8, (a14, (a15, (a17, (a18 - (1 : UInt64), ())))))), ())⟩))
    (.ok (.inl ((a2, (a8, (a9, (a10, (a14, (a15, (a16 + a9, (a17, (a18 - (1 : UInt64), ()))))))))), ()))))
  (.br (decide ((4294967296 : UInt64) * a16 + a14 < a18 * a10))
    (.br (z0)
      (.ok (.inr ⟨(.exit 2, bdiv64_e2_2), ((a2, (a8, (a14, (a15, (a17, (a18 - (1 : UInt64), ())))))), ())⟩))
      (.ok (.inl ((a2, (a8, (a9, (a10, (a14, (a15, (a16 + a9, (a17, (a18 - (1 : UInt64), ()))))))))), ()))))
    (.ok (.inr ⟨(.exit 2, bdiv64_e2_2), ((a2, (a8, (a14, (a15, (a17, (a18, ())))))), ())⟩))))
def bdiv64_U2 (s : bdiv64_s2X) : OT (Sum bdiv64_s2X LEnd) := bdiv64_T2 (s.1.1) (s.1.2.1) (s.1.2.2.1) (s.1.2.2.2.1) (s.1.2.2.2.2.1) (s.1.2.2.2.2.2.1) (s.1.2.2.2.2.2.2.1) (s.1.2.2.2.2.2.2.2.1) (s.1.2.2.2.2.2.2.2.2.1)
theorem bdiv64_q2 (s : bdiv64_s2X) (Q : Sum bdiv64_s2X LEnd → Prop) : wps te E_blz64 lamNil 1000 (loopOf (codeOf Try.f113) 2) (bdiv64_s2.inj s) (stepK bdiv64_s2 bdiv64_x2 (Q : Sum bdiv64_s2.T LEnd → Prop)) = (bdiv64_U2 s).wpR Q := by kernel_rfl
def bdiv64_f2 (g2_2 : bdiv64_s2X → bdiv64_e2_2X) (s : bdiv64_s2X) : OT LEnd := (.ok ⟨(.exit 2, bdiv64_e2_2), g2_2 s⟩)
def bdiv64_o0 : OutSh := ⟨[.val false .u64, .val false .u64], [], false⟩
def bdiv64_sel : SV → Option OutSh := fun _ => some bdiv64_o0
def bdiv64_T (ok0 : bdiv64_s0X → Bool) (g0_0 : bdiv64_s0X → bdiv64_e0_0X) (ok2 : bdiv64_s2X → Bool) (g2_2 : bdiv64_s2X → bdiv64_e2_2X) (a0 : UInt64) (a1 : UInt64) (a2 : UInt64) : OT bdiv64_S.Y :=
  let z0 : Bool := !a2 == (0 : UInt64)
  let z1 : UInt64 := shl64 a2 (40 : Int)
  let z2 : UInt64 := shr64 z1 (32 : Int)
  let z3 : UInt64 := shl64 a0 (40 : Int) ||| shr64 a1 (24 : Int)
  let z4 : UInt64 := shl64 a1 (40 : Int)
  let z5 : UInt64 := z3 / z2
  let z6 : (UInt64 × UInt64 × UInt64 × UInt64 × UInt64 × UInt64 × UInt64 × UInt64 × UInt64 × PUnit) × PUnit := ((z1, (40 : UInt64), z2, z1 &&& (4294967295 : UInt64), z3, shr64 z4 (32 : Int), z4 &&& (4294967295 : UInt64), z5, z3 - z5 * z2, ()), ())
  let z7 := (g0_0 z6).fst
  let z8 := z7.snd
  let z9 := z8.snd
  let z10 := z9.fst
  let z11 := z7.fst
  let z12 := z9.snd
  let z13 := z12.snd
  let z14 := z13.snd
  let z15 := z14.snd
  let z16 := z15.snd.fst
  let z17 : UInt64 := z13.fst * (4294967296 : UInt64) + z14.fst - z16 * z11
  let z18 : UInt64 := z17 / z10
  let z19 : (UInt64 × UInt64 × UInt64 × UInt64 × UInt64 × UInt64 × UInt64 × UInt64 × UInt64 × PUnit) × PUnit := ((z11, z8.fst, z10, z12.fst, z15.fst, z16, z17 - z18 * z10, z17, z18, ()), ())
  let z20 := (g2_2 z19).fst
  let z21 := z20.snd
  let z22 := z21.snd
  let z23 := z22.snd
  let z24 := z23.snd
  let z25 := z24.snd.fst
  (.br (a2 == (0 : UInt64))
  .fail
  (.br (decide (a2 ≤ a0))
    .fail
    (.br (a0 == (0 : UInt64))
      (gd [z0, z0] (.ok ⟨bdiv64_o0, ((a1 / a2, (a1 % a2, ())), ())⟩))
      (gd [blz64_pre ((a2, ()), ()), !z2 == (0 : UInt64), ok0 z6, !z10 == (0 : UInt64), ok2 z19] (.ok ⟨bdiv64_o0, ((z23.fst * (4294967296 : UInt64) + z25, (shr64 (z24.fst * (4294967296 : UInt64) + z22.fst - z25 * z20.fst) (↑(UInt64.toNat z21.fst) : Int), ())), ())⟩)))))
theorem bdiv64_q (ok0 : bdiv64_s0X → Bool) (g0_0 : bdiv64_s0X → bdiv64_e0_0X) (ok2 : bdiv64_s2X → Bool) (g2_2 : bdiv64_s2X → bdiv64_e2_2X) (x : bdiv64X) (Q : bdiv64_S.Y → Prop) : wpf te E_blz64 (lamCons 2 (loopF bdiv64_s2 2 ok2 (bdiv64_f2 g2_2)) (lamCons 0 (loopF bdiv64_s0 0 ok0 (bdiv64_f0 g0_0)) lamNil)) 1000 Try.f113 (bdiv64_S.inp.inj x).tm (bdiv64_S.inp.inj x).hp (fnK bdiv64_S bdiv64_sel Q) (fun _ _ => False) = (bdiv64_T ok0 g0_0 ok2 g2_2 (x.1.1) (x.1.2.1) (x.1.2.2.1)).wpR Q := by kernel_rfl
theorem bdiv64_main (ok0 : bdiv64_s0X → Bool) (g0_0 : bdiv64_s0X → bdiv64_e0_0X) (ok2 : bdiv64_s2X → Bool) (g2_2 : bdiv64_s2X → bdiv64_e2_2X) (h0 : ∀ s : bdiv64_s0X, ok0 s = true → ∃ m e, loopRun (bdiv64_U0) m s = some e ∧ (bdiv64_f0 g0_0 s).run = some e) (h2 : ∀ s : bdiv64_s2X, ok2 s = true → ∃ m e, loopRun (bdiv64_U2) m s = some e ∧ (bdiv64_f2 g2_2 s).run = some e) (pre : bdiv64X → Bool) (F : bdiv64X → OT bdiv64_S.Y) (hF : ∀ (x : bdiv64X) oy, pre x = true → (F x).run = some oy → (bdiv64_T ok0 g0_0 ok2 g2_2 (x.1.1) (x.1.2.1) (x.1.2.2.1)).run = some oy) : SummOk Try.prog 113 (bdiv64_S.summ pre F) :=
  fn_tree te_ok E_blz64_ok E_blz64_any (f := 113) (fn := Try.f113) (c := codeOf Try.f113) (by kernel_rfl) (by kernel_rfl) (by kernel_rfl) (S := bdiv64_S) (k := 0) (by kernel_rfl) (fun R hR => (lamOk_cons (c := (codeOf Try.f113)) (by kernel_rfl) (id := 2) (by kernel_rfl) (loop_ok te_ok E_blz64_ok E_blz64_any (sh := bdiv64_s2) hR (xs := bdiv64_x2) (xsMk_small (by kernel_rfl) (by kernel_rfl) hR) xsMk_pan lamOk_nil (n := 1000) (T := bdiv64_U2) (fun s Q => bdiv64_q2 s Q) (ok := ok2) (f := bdiv64_f2 g2_2) h2) (lamOk_cons (c := (codeOf Try.f113)) (by kernel_rfl) (id := 0) (by kernel_rfl) (loop_ok te_ok E_blz64_ok E_blz64_any (sh := bdiv64_s0) hR (xs := bdiv64_x0) (xsMk_small (by kernel_rfl) (by kernel_rfl) hR) xsMk_pan lamOk_nil (n := 1000) (T := bdiv64_U0) (fun s Q => bdiv64_q0 s Q) (ok := ok0) (f := bdiv64_f0 g0_0) h0) lamOk_nil))) (n := 1000) (sel := bdiv64_sel) (fun v o h => by cases h; rfl) (pre := pre) (F := F) (T := fun x => bdiv64_T ok0 g0_0 ok2 g2_2 (x.1.1) (x.1.2.1) (x.1.2.2.1)) (fun x Q => bdiv64_q ok0 g0_0 ok2 g2_2 x Q) hF
def bdiv64_ok0 (s : bdiv64_s0X) : Bool := decide (s.1.2.2.2.1 = 0 ∧ s.1.2.2.2.2.2.2.2.1 < 4294967296)
def bdiv64_g0 (s : bdiv64_s0X) : bdiv64_e0_0X := ((s.1.1, s.1.2.1, s.1.2.2.1, s.1.2.2.2.1, s.1.2.2.2.2.1, s.1.2.2.2.2.2.1, s.1.2.2.2.2.2.2.1, s.1.2.2.2.2.2.2.2.1, ()), ())
theorem not_le_of {a b : UInt64} (h : b < a) : decide (a ≤ b) = false := decide_eq_false (by rw [UInt64.le_iff_toNat_le, UInt64.lt_iff_toNat_lt] at *; omega)
theorem not_lt_zero {a b : UInt64} : decide (a < b * 0) = false := decide_eq_false (by
  have : b * 0 = 0 := by rw [← UInt64.toNat_inj]; simp
  rw [this, UInt64.lt_iff_toNat_lt]
  exact Nat.not_lt_zero _)
theorem bdiv64_h0 : ∀ s : bdiv64_s0X, bdiv64_ok0 s = true → ∃ m e, loopRun bdiv64_U0 m s = some e ∧ (bdiv64_f0 bdiv64_g0 s).run = some e := by
  rintro ⟨⟨a2, a8, a9, a10, a11, a13, a14, a15, a16, ⟨⟩⟩, ⟨⟩⟩ h
  have h' := of_decide_eq_true h
  dsimp only at h'
  obtain ⟨rfl, hl⟩ := h'
  exact ⟨1, _, loopRun_out ((OT.run_f (not_le_of hl)).trans (OT.run_f not_lt_zero)), rfl⟩
def bdiv64_ok2 (s : bdiv64_s2X) : Bool := decide (s.1.2.2.2.1 = 0 ∧ s.1.2.2.2.2.2.2.2.2.1 < 4294967296)
def bdiv64_g2 (s : bdiv64_s2X) : bdiv64_e2_2X := ((s.1.1, s.1.2.1, s.1.2.2.2.2.1, s.1.2.2.2.2.2.1, s.1.2.2.2.2.2.2.2.1, s.1.2.2.2.2.2.2.2.2.1, ()), ())
theorem bdiv64_h2 : ∀ s : bdiv64_s2X, bdiv64_ok2 s = true → ∃ m e, loopRun bdiv64_U2 m s = some e ∧ (bdiv64_f2 bdiv64_g2 s).run = some e := by
  rintro ⟨⟨a2, a8, a9, a10, a14, a15, a16, a17, a18, ⟨⟩⟩, ⟨⟩⟩ h
  have h' := of_decide_eq_true h
  dsimp only at h'
  obtain ⟨rfl, hl⟩ := h'
  exact ⟨1, _, loopRun_out ((OT.run_f (not_le_of hl)).trans (OT.run_f not_lt_zero)), rfl⟩
def bdiv64_pre (x : bdiv64X) : Bool := isSmall x.1.2.2.1 && decide (x.1.1 < x.1.2.2.1)
def bdiv64_F (x : bdiv64X) : OT bdiv64_S.Y := .ok ⟨bdiv64_o0, ((divQ x.1.1 x.1.2.1 x.1.2.2.1, divR x.1.1 x.1.2.1 x.1.2.2.1, ()), ())⟩
theorem word_join {v z : Nat} (hv : v < 4294967296) (hz : z < 4294967296) : (v * 4294967296 % 2 ^ 64 + z) % 2 ^ 64 = (v * (256 * 16777216) + z) % 2 ^ 64 := by
  rw [Nat.mod_eq_of_lt (a := v * 4294967296) (by omega)]
theorem word_rem {s : Nat} (hs : s < 4294967296) : s * 4294967296 / 2 ^ 40 = s / 256 % 2 ^ 64 := by
  rw [Nat.mod_eq_of_lt (by omega), show (2 : Nat) ^ 40 = 256 * 4294967296 from rfl, Nat.mul_div_mul_right _ _ (by omega)]
theorem bdiv64_words {h l y : UInt64} {m : Nat} (hm : y.toNat = m) (hy : (shl64 y 40).toNat = m * 1099511627776) (hy1 : (shr64 (shl64 y 40) 32).toNat = m * 256) (hy0 : shl64 y 40 &&& 4294967295 = 0) (hm0 : 0 < m) (hm1 : m < 16777216) (hh : h.toNat < m) :
    let u := shl64 h 40 ||| shr64 l 24
    let q1 := u / shr64 (shl64 y 40) 32
    let un21 := u * 4294967296 + shr64 (shl64 l 40) 32 - q1 * shl64 y 40
    let q0 := un21 / shr64 (shl64 y 40) 32
    q1 < 4294967296 ∧ q0 < 4294967296 ∧ q1 * 4294967296 + q0 = divQ h l y ∧ shr64 (un21 * 4294967296 + (shl64 l 40 &&& 4294967295) - q0 * shl64 y 40) 40 = divR h l y := by
  intro u q1 un21 q0
  have hl := l.toNat_lt
  have hu : u.toNat = h.toNat * 1099511627776 + l.toNat / 16777216 := by
    have e1 : (shl64 h 40).toNat = h.toNat * 1099511627776 := by
      rw [show ((40 : Int)) = ((40 : Nat) : Int) from rfl, shl64_nat _ _ (by omega)]
      exact Nat.mod_eq_of_lt (by omega)
    have e2 : (shr64 l 24).toNat = l.toNat / 16777216 := shr64_nat l 24 (by omega)
    simp only [u]
    rw [UInt64.toNat_or, e1, e2, Nat.mul_comm]
    have := Nat.two_pow_add_eq_or_of_lt (i := 40) (b := l.toNat / 16777216) (by omega) h.toNat
    exact this.symm
  have hun1 : (shr64 (shl64 l 40) 32).toNat = l.toNat % 16777216 * 256 := by
    rw [show ((32 : Int)) = ((32 : Nat) : Int) from rfl, shr64_nat _ _ (by omega), show ((40 : Int)) = ((40 : Nat) : Int) from rfl, shl64_nat _ _ (by omega)]
    omega
  have hun0 : shl64 l 40 &&& 4294967295 = 0 := by
    rw [← UInt64.toNat_inj, and_mask32, show ((40 : Int)) = ((40 : Nat) : Int) from rfl, shl64_nat _ _ (by omega)]
    show l.toNat * 2 ^ 40 % 2 ^ 64 % 4294967296 = 0
    omega
  have hq1 : q1.toNat = u.toNat / (m * 256) := by simp only [q1]; rw [UInt64.toNat_div, hy1]
  have hN : h.toNat * 18446744073709551616 + l.toNat = u.toNat * 16777216 + l.toNat % 16777216 := by rw [hu]; omega
  have hqr : u.toNat = q1.toNat * (m * 256) + u.toNat % (m * 256) := by
    rw [hq1, Nat.mul_comm]
    exact (Nat.div_add_mod _ _).symm
  have hr : u.toNat % (m * 256) < m * 256 := Nat.mod_lt _ (by omega)
  have hul : u.toNat < m * 256 * 4294967296 := by rw [hu]; omega
  have hq1l : q1.toNat < 4294967296 := by rw [hq1]; exact Nat.div_lt_of_lt_mul hul
  generalize hrr : u.toNat % (m * 256) = r at *
  have hprod : q1.toNat * (m * 1099511627776) = q1.toNat * (m * 256) * 4294967296 := by
    rw [Nat.mul_assoc, Nat.mul_assoc]
  have h21 : un21.toNat = r * 4294967296 + l.toNat % 16777216 * 256 := by
    simp only [un21]
    rw [UInt64.toNat_sub, UInt64.toNat_add, UInt64.toNat_mul, UInt64.toNat_mul, hun1, hy, hprod, show (4294967296 : UInt64).toNat = 4294967296 from rfl]
    generalize q1.toNat * (m * 256) = A at *
    omega
  have hq0 : q0.toNat = un21.toNat / (m * 256) := by simp only [q0]; rw [UInt64.toNat_div, hy1]
  have h21l : un21.toNat < m * 256 * 4294967296 := by rw [h21]; omega
  have hq0l : q0.toNat < 4294967296 := by rw [hq0]; exact Nat.div_lt_of_lt_mul h21l
  have hqr0 : un21.toNat = q0.toNat * (m * 256) + un21.toNat % (m * 256) := by
    rw [hq0, Nat.mul_comm]
    exact (Nat.div_add_mod _ _).symm
  have hr0 : un21.toNat % (m * 256) < m * 256 := Nat.mod_lt _ (by omega)
  obtain ⟨d1, d2⟩ := div_words_gen (K := 16777216) (L := 256) hm0 (by omega) hN hqr
  have e21 : (r * 16777216 + l.toNat % 16777216) * 256 = un21.toNat := by rw [h21]; omega
  rw [e21] at d1 d2
  refine ⟨by rw [UInt64.lt_iff_toNat_lt]; exact hq1l, by rw [UInt64.lt_iff_toNat_lt]; exact hq0l, ?_, ?_⟩
  · rw [← UInt64.toNat_inj, UInt64.toNat_add, UInt64.toNat_mul, show (4294967296 : UInt64).toNat = 4294967296 from rfl, hq0]
    unfold divQ
    rw [hm, UInt64.toNat_ofNat', d1, ← hq0]
    exact word_join hq1l hq0l
  · have hprod0 : q0.toNat * (m * 1099511627776) = q0.toNat * (m * 256) * 4294967296 := by
      rw [Nat.mul_assoc, Nat.mul_assoc]
    have e3 : (un21 * 4294967296 + (shl64 l 40 &&& 4294967295) - q0 * shl64 y 40).toNat = (un21.toNat % (m * 256)) * 4294967296 := by
      rw [hun0, UInt64.toNat_sub, UInt64.toNat_add, UInt64.toNat_mul, UInt64.toNat_mul, hy, hprod0, show (4294967296 : UInt64).toNat = 4294967296 from rfl, show (0 : UInt64).toNat = 0 from rfl]
      generalize un21.toNat % (m * 256) = s at *
      generalize q0.toNat * (m * 256) = A at *
      omega
    rw [← UInt64.toNat_inj, show ((40 : Int)) = ((40 : Nat) : Int) from rfl, shr64_nat _ _ (by omega), show ((40 : Nat) : Int) = 40 from rfl, e3]
    unfold divR
    rw [hm, UInt64.toNat_ofNat', d2]
    exact word_rem (by omega)
theorem small_facts {y : UInt64} (h : isSmall y = true) : ∃ m, y.toNat = m ∧ (shl64 y 40).toNat = m * 1099511627776 ∧ (shr64 (shl64 y 40) 32).toNat = m * 256 ∧ shl64 y 40 &&& 4294967295 = 0 ∧ 0 < m ∧ m < 16777216 := by
  rcases isSmall_cases h with rfl | rfl
  · exact ⟨16513537, rfl, by decide +kernel, by decide +kernel, by decide +kernel, by omega, by omega⟩
  · exact ⟨16521217, rfl, by decide +kernel, by decide +kernel, by decide +kernel, by omega, by omega⟩
theorem bdiv64_ok : SummOk Try.prog 113 (bdiv64_S.summ bdiv64_pre bdiv64_F) := bdiv64_main bdiv64_ok0 bdiv64_g0 bdiv64_ok2 bdiv64_g2 bdiv64_h0 bdiv64_h2 _ _ fun x oy hp ho => by
  rw [← ho]
  clear ho
  obtain ⟨⟨h, l, y, ⟨⟩⟩, ⟨⟩⟩ := x
  have hp' : (isSmall y && decide (h < y)) = true := hp
  rw [Bool.and_eq_true] at hp'
  obtain ⟨hs, hlt⟩ := hp'
  have hlt := of_decide_eq_true hlt
  obtain ⟨m, f1, f2, f3, f4, f5, f6⟩ := small_facts hs
  have hh : h.toNat < m := by rw [← f1]; exact UInt64.lt_iff_toNat_lt.1 hlt
  have hy0 : ¬ y = 0 := fun e => by rw [e] at f1; simp at f1; omega
  have hyb : (y == 0) = false := by simpa using hy0
  have hle : decide (y ≤ h) = false := not_le_of hlt
  unfold bdiv64_T
  refine (OT.run_f hyb).trans ((OT.run_f hle).trans ?_)
  by_cases h0 : h = 0
  · subst h0
    refine (OT.run_t rfl).trans ((gd_run ?_).trans ?_)
    · simp only [hyb, List.all_cons, List.all_nil, Bool.and_true, Bool.not_false]
    · have e1 : divQ 0 l y = l / y := by
        rw [← UInt64.toNat_inj]
        unfold divQ
        rw [UInt64.toNat_ofNat', UInt64.toNat_div, show (0 : UInt64).toNat = 0 from rfl, Nat.zero_mul, Nat.zero_add]
        exact Nat.mod_eq_of_lt (Nat.lt_of_le_of_lt (Nat.div_le_self _ _) l.toNat_lt)
      have e2 : divR 0 l y = l % y := by
        rw [← UInt64.toNat_inj]
        unfold divR
        rw [UInt64.toNat_ofNat', UInt64.toNat_mod, show (0 : UInt64).toNat = 0 from rfl, Nat.zero_mul, Nat.zero_add]
        exact Nat.mod_eq_of_lt (Nat.lt_of_le_of_lt (Nat.mod_le _ _) l.toNat_lt)
      simp only [bdiv64_F, e1, e2]
  · have hb : (h == 0) = false := by simpa using h0
    obtain ⟨w1, w2, w3, w4⟩ := bdiv64_words (l := l) f1 f2 f3 f4 f5 f6 hh
    have hz : (!(shr64 (shl64 y 40) 32 == 0)) = true := by
      have : ¬ shr64 (shl64 y 40) 32 = 0 := fun e => by rw [e] at f3; simp at f3; omega
      simpa using this
    refine (OT.run_f hb).trans ((gd_run ?_).trans ?_)
    · simp only [List.all_cons, List.all_nil, Bool.and_true, Bool.and_eq_true]
      exact ⟨hs, hz, decide_eq_true ⟨f4, w1⟩, hz, decide_eq_true ⟨f4, w2⟩⟩
    · show some (⟨bdiv64_o0, ((_, shr64 _ ((40 : UInt64).toNat : Int), ()), ())⟩ : bdiv64_S.Y) = some ⟨bdiv64_o0, ((divQ h l y, divR h l y, ()), ())⟩
      rw [← w3, ← w4]
      rfl
def bdiv64_summ : Summ := (bdiv64_S.summ bdiv64_pre bdiv64_F)
theorem bdiv64_known : SummOk Try.prog 113 bdiv64_summ := bdiv64_ok
theorem bdiv64_smono : MonoOk bdiv64_summ := fn_mono
def E_bdiv64 : Env := envCons 113 bdiv64_summ E_blz64
theorem E_bdiv64_ok : EnvOk Try.prog E_bdiv64 := envOk_cons bdiv64_known E_blz64_ok
theorem E_bdiv64_mono : EnvMono E_bdiv64 := envMono_cons bdiv64_smono E_blz64_mono
theorem E_bdiv64_any : AnyOk Try.prog te E_bdiv64 := any_ok follows te_ok E_bdiv64_ok E_bdiv64_mono
def wadd_S : FnSpec := ⟨[.val true .elem, .val true .elem], [], true, 0, false⟩
abbrev waddX : Type := ((Elem) × (Elem) × Unit) × (Unit)
def wadd_s0 : Shape := ⟨29, [(2, .ptr 0 0 0), (3, .ptr 1 0 0), (4, .ptr 2 0 0), (6, .ptr 3 0 0), (7, .val false .u64), (9, .val false .int)], [(0, .row .u64), (1, .row .u64), (2, .row .u64), (3, .row .u64)], 0, true⟩
abbrev wadd_s0X : Type := ((Unit) × (Unit) × (Unit) × (Unit) × (UInt64) × (Int) × Unit) × ((List (UInt64)) × (List (UInt64)) × (List (UInt64)) × (List (UInt64)) × Unit)
def wadd_e0_0 : Shape := ⟨29, [(4, .ptr 0 0 0), (6, .ptr 1 0 0), (7, .val false .u64)], [(0, .row .u64), (1, .row .u64)], 0, true⟩
abbrev wadd_e0_0X : Type := ((Unit) × (Unit) × (UInt64) × Unit) × ((List (UInt64)) × (List (UInt64)) × Unit)
def wadd_x0 : SE → Option Shape := xsMk [(0, wadd_e0_0)] none
def wadd_T0 (a7 : UInt64) (a9 : Int) (c0 : List (UInt64)) (c1 : List (UInt64)) (c2 : List (UInt64)) (c3 : List (UInt64)) : OT (Sum wadd_s0X LEnd) :=
  let z0 : Bool := inB a9 4
  let z1 : UInt64 := List.getD c0 (Int.toNat a9 + 0) (0 : UInt64)
  let z2 : UInt64 := List.getD c1 (Int.toNat a9 + 0) (0 : UInt64)
  (.br (decide (a9 < (4 : Int)))
  (gd [z0, decide (Int.toNat a9 + 0 < List.length c0), z0, decide (Int.toNat a9 + 0 < List.length c1), badd64_pre ((z1, z2, a7, ()), ()), z0, decide (Int.toNat a9 + 0 < List.length c3), inR (a9 + (1 : Int))] (.ok (.inl (((), ((), ((), ((), (addK z1 z2 a7, (a9 + (1 : Int), ())))))), (c0, (c1, (c2, (List.set c3 (Int.toNat a9 + 0) (addC z1 z2 a7), ()))))))))
  (.ok (.inr ⟨(.exit 0, wadd_e0_0), (((), ((), (a7, ()))), (c2, (c3, ())))⟩)))
def wadd_U0 (s : wadd_s0X) : OT (Sum wadd_s0X LEnd) := wadd_T0 (s.1.2.2.2.2.1) (s.1.2.2.2.2.2.1) (s.2.1) (s.2.2.1) (s.2.2.2.1) (s.2.2.2.2.1)
theorem wadd_q0 (s : wadd_s0X) (Q : Sum wadd_s0X LEnd → Prop) : wps te E_bdiv64 lamNil 1000 (loopOf (codeOf Try.f101) 0) (wadd_s0.inj s) (stepK wadd_s0 wadd_x0 (Q : Sum wadd_s0.T LEnd → Prop)) = (wadd_U0 s).wpR Q := by kernel_rfl
def wadd_f0 (g0_0 : wadd_s0X → wadd_e0_0X) (s : wadd_s0X) : OT LEnd := (.ok ⟨(.exit 0, wadd_e0_0), g0_0 s⟩)
def wadd_o0 : OutSh := ⟨[.val true .elem, .val false .bool], [], false⟩
def wadd_sel : SV → Option OutSh := fun _ => some wadd_o0
def wadd_T (ok0 : wadd_s0X → Bool) (g0_0 : wadd_s0X → wadd_e0_0X) (a0 : Elem) (a1 : Elem) : OT wadd_S.Y :=
  let z0 : (PUnit × PUnit × PUnit × PUnit × UInt64 × Int × PUnit) × List UInt64 × List UInt64 × List UInt64 × List UInt64 × PUnit := (((), (), (), (), (0 : UInt64), (0 : Int), ()), [a0.w0, a0.w1, a0.w2, a0.w3], [a1.w0, a1.w1, a1.w2, a1.w3], [(0 : UInt64), (0 : UInt64), (0 : UInt64), (0 : UInt64)], [(0 : UInt64), (0 : UInt64), (0 : UInt64), (0 : UInt64)], ())
  let z1 : (PUnit × PUnit × UInt64 × PUnit) × List UInt64 × List UInt64 × PUnit := g0_0 z0
  let z2 := z1.snd
  let z3 := z2.snd.fst
  let z4 := z2.fst
  let z5 : List UInt64 := lay z4 z3 4 (0 : UInt64)
  (gd [ok0 z0, decide (4 ≤ List.length z3), decide ((4 / 1 : Nat) + 0 ≤ List.length z4), decide (4 ≤ List.length z5)] (.ok ⟨wadd_o0, (({ w0 := List.getD z5 0 0, w1 := List.getD z5 1 0, w2 := List.getD z5 2 0, w3 := List.getD z5 3 0 }, (!z1.fst.snd.snd.fst == (0 : UInt64), ())), ())⟩))
theorem wadd_q (ok0 : wadd_s0X → Bool) (g0_0 : wadd_s0X → wadd_e0_0X) (x : waddX) (Q : wadd_S.Y → Prop) : wpf te E_bdiv64 (lamCons 0 (loopF wadd_s0 0 ok0 (wadd_f0 g0_0)) lamNil) 1000 Try.f101 (wadd_S.inp.inj x).tm (wadd_S.inp.inj x).hp (fnK wadd_S wadd_sel Q) (fun _ _ => False) = (wadd_T ok0 g0_0 (x.1.1) (x.1.2.1)).wpR Q := by kernel_rfl
theorem wadd_main (ok0 : wadd_s0X → Bool) (g0_0 : wadd_s0X → wadd_e0_0X) (h0 : ∀ s : wadd_s0X, ok0 s = true → ∃ m e, loopRun (wadd_U0) m s = some e ∧ (wadd_f0 g0_0 s).run = some e) (pre : waddX → Bool) (F : waddX → OT wadd_S.Y) (hF : ∀ (x : waddX) oy, pre x = true → (F x).run = some oy → (wadd_T ok0 g0_0 (x.1.1) (x.1.2.1)).run = some oy) : SummOk Try.prog 101 (wadd_S.summ pre F) :=
  fn_tree te_ok E_bdiv64_ok E_bdiv64_any (f := 101) (fn := Try.f101) (c := codeOf Try.f101) (by kernel_rfl) (by kernel_rfl) (by kernel_rfl) (S := wadd_S) (k := 0) (by kernel_rfl) (fun R hR => (lamOk_cons (c := (codeOf Try.f101)) (by kernel_rfl) (id := 0) (by kernel_rfl) (loop_ok te_ok E_bdiv64_ok E_bdiv64_any (sh := wadd_s0) hR (xs := wadd_x0) (xsMk_small (by kernel_rfl) (by kernel_rfl) hR) xsMk_pan lamOk_nil (n := 1000) (T := wadd_U0) (fun s Q => wadd_q0 s Q) (ok := ok0) (f := wadd_f0 g0_0) h0) lamOk_nil)) (n := 1000) (sel := wadd_sel) (fun v o h => by cases h; rfl) (pre := pre) (F := F) (T := fun x => wadd_T ok0 g0_0 (x.1.1) (x.1.2.1)) (fun x Q => wadd_q ok0 g0_0 x Q) hF
def addSt (a b : List UInt64) (k : Nat) (s : List UInt64 × UInt64) : List UInt64 × UInt64 := (s.1.set k (addC (a.getD k 0) (b.getD k 0) s.2), addK (a.getD k 0) (b.getD k 0) s.2)
def wadd_ok0 (s : wadd_s0X) : Bool := decide (s.1.2.2.2.2.1 = 0 ∧ s.1.2.2.2.2.2.1 = 0 ∧ s.2.1.length = 4 ∧ s.2.2.1.length = 4 ∧ s.2.2.2.2.1 = [0, 0, 0, 0])
def wadd_g0 (s : wadd_s0X) : wadd_e0_0X := (((), (), (upto (addSt s.2.1 s.2.2.1) ([0, 0, 0, 0], 0) 4).2, ()), (s.2.2.2.1, (upto (addSt s.2.1 s.2.2.1) ([0, 0, 0, 0], 0) 4).1, ()))
theorem wadd_h0 : ∀ s : wadd_s0X, wadd_ok0 s = true → ∃ m e, loopRun wadd_U0 m s = some e ∧ (wadd_f0 wadd_g0 s).run = some e := by
  rintro ⟨⟨⟨⟩, ⟨⟩, ⟨⟩, ⟨⟩, c, i, ⟨⟩⟩, ⟨c0, c1, c2, c3, ⟨⟩⟩⟩ h
  have h' := of_decide_eq_true h
  dsimp only at h'
  obtain ⟨rfl, rfl, h0, h1, rfl⟩ := h'
  have := (loop_upto (T := wadd_U0) (fun k s => ((((), (), (), (), s.2, (k : Int), ()), (c0, c1, c2, s.1, ())) : wadd_s0X)) (addSt c0 c1)
    (fun s => (⟨(.exit 0, wadd_e0_0), (((), (), s.2, ()), (c2, s.1, ()))⟩ : LEnd)) 4 ([0, 0, 0, 0], 0) (fun _ s => s.1.length = 4 ∧ s.2.toNat ≤ 1) ⟨rfl, by decide⟩ (fun k s hk hs => ⟨?_, ?_⟩) (fun s hs => ?_)).1
  · obtain ⟨m, hm⟩ := this
    exact ⟨m, _, hm, rfl⟩
  · refine (OT.run_t (decide_eq_true (by dsimp only; omega))).trans ((gd_run ?_).trans ?_)
    · simp only [Int.toNat_natCast, Nat.add_zero, h0, h1, hs.1, List.all_cons, List.all_nil, Bool.and_true, Bool.and_eq_true]
      exact ⟨inB_of (by omega), decide_eq_true (by omega), inB_of (by omega), decide_eq_true (by omega), decide_eq_true hs.2, inB_of (by omega), decide_eq_true (by omega), inR_of (by omega)⟩
    · simp only [OT.run_ok, Int.toNat_natCast, Nat.add_zero]
      rfl
  · exact ⟨by simp only [addSt, List.length_set]; exact hs.1, addK_le hs.2⟩
  · exact OT.run_f (decide_eq_false (by dsimp only; omega))
theorem lay4 (x y : List UInt64) (hx : x.length = 4) (hy : y.length = 4) : lay x y 4 0 = y := lay_eq hx hy
def wadd_pre (_ : waddX) : Bool := true
def wadd_F (x : waddX) : OT wadd_S.Y := .ok ⟨wadd_o0, (((wsum x.1.1 x.1.2.1).1, ((wsum x.1.1 x.1.2.1).2, ())), ())⟩
theorem wadd_ok : SummOk Try.prog 101 (wadd_S.summ wadd_pre wadd_F) := wadd_main wadd_ok0 wadd_g0 wadd_h0 _ _ fun x oy hp ho => by
  rw [← ho]
  clear ho
  obtain ⟨⟨a, b, ⟨⟩⟩, ⟨⟩⟩ := x
  obtain ⟨_, hw⟩ := wsum_words a b
  refine (gd_run ?_).trans ?_
  · simp only [List.all_cons, List.all_nil, Bool.and_true, Bool.and_eq_true]
    exact ⟨rfl, rfl, rfl, rfl⟩
  · simp only [wadd_F, hw]
    rfl
def wadd_summ : Summ := (wadd_S.summ wadd_pre wadd_F)
theorem wadd_known : SummOk Try.prog 101 wadd_summ := wadd_ok
theorem wadd_smono : MonoOk wadd_summ := fn_mono
def E_wadd : Env := envCons 101 wadd_summ E_bdiv64
theorem E_wadd_ok : EnvOk Try.prog E_wadd := envOk_cons wadd_known E_bdiv64_ok
theorem E_wadd_mono : EnvMono E_wadd := envMono_cons wadd_smono E_bdiv64_mono
theorem E_wadd_any : AnyOk Try.prog te E_wadd := any_ok follows te_ok E_wadd_ok E_wadd_mono
def wsub_S : FnSpec := ⟨[.val true .elem, .val true .elem], [], true, 0, false⟩
abbrev wsubX : Type := ((Elem) × (Elem) × Unit) × (Unit)
def wsub_s0 : Shape := ⟨29, [(2, .ptr 0 0 0), (3, .ptr 1 0 0), (4, .ptr 2 0 0), (6, .ptr 3 0 0), (7, .val false .u64), (9, .val false .int)], [(0, .row .u64), (1, .row .u64), (2, .row .u64), (3, .row .u64)], 0, true⟩
abbrev wsub_s0X : Type := ((Unit) × (Unit) × (Unit) × (Unit) × (UInt64) × (Int) × Unit) × ((List (UInt64)) × (List (UInt64)) × (List (UInt64)) × (List (UInt64)) × Unit)
def wsub_e0_0 : Shape := ⟨29, [(4, .ptr 0 0 0), (6, .ptr 1 0 0), (7, .val false .u64)], [(0, .row .u64), (1, .row .u64)], 0, true⟩
abbrev wsub_e0_0X : Type := ((Unit) × (Unit) × (UInt64) × Unit) × ((List (UInt64)) × (List (UInt64)) × Unit)
def wsub_x0 : SE → Option Shape := xsMk [(0, wsub_e0_0)] none
def wsub_T0 (a7 : UInt64) (a9 : Int) (c0 : List (UInt64)) (c1 : List (UInt64)) (c2 : List (UInt64)) (c3 : List (UInt64)) : OT (Sum wsub_s0X LEnd) :=
  let z0 : Bool := inB a9 4
  let z1 : UInt64 := List.getD c0 (Int.toNat a9 + 0) (0 : UInt64)
  let z2 : UInt64 := List.getD c1 (Int.toNat a9 + 0) (0 : UInt64)
  (.br (decide (a9 < (4 : Int)))
  (gd [z0, decide (Int.toNat a9 + 0 < List.length c0), z0, decide (Int.toNat a9 + 0 < List.length c1), bsub64_pre ((z1, z2, a7, ()), ()), z0, decide (Int.toNat a9 + 0 < List.length c3), inR (a9 + (1 : Int))] (.ok (.inl (((), ((), ((), ((), (subK z1 z2 a7, (a9 + (1 : Int), ())))))), (c0, (c1, (c2, (List.set c3 (Int.toNat a9 + 0) (subC z1 z2 a7), ()))))))))
  (.ok (.inr ⟨(.exit 0, wsub_e0_0), (((), ((), (a7, ()))), (c2, (c3, ())))⟩)))
def wsub_U0 (s : wsub_s0X) : OT (Sum wsub_s0X LEnd) := wsub_T0 (s.1.2.2.2.2.1) (s.1.2.2.2.2.2.1) (s.2.1) (s.2.2.1) (s.2.2.2.1) (s.2.2.2.2.1)
theorem wsub_q0 (s : wsub_s0X) (Q : Sum wsub_s0X LEnd → Prop) : wps te E_wadd lamNil 1000 (loopOf (codeOf Try.f91) 0) (wsub_s0.inj s) (stepK wsub_s0 wsub_x0 (Q : Sum wsub_s0.T LEnd → Prop)) = (wsub_U0 s).wpR Q := by kernel_rfl
def wsub_f0 (g0_0 : wsub_s0X → wsub_e0_0X) (s : wsub_s0X) : OT LEnd := (.ok ⟨(.exit 0, wsub_e0_0), g0_0 s⟩)
def wsub_o0 : OutSh := ⟨[.val true .elem, .val false .bool], [], false⟩
def wsub_sel : SV → Option OutSh := fun _ => some wsub_o0
def wsub_T (ok0 : wsub_s0X → Bool) (g0_0 : wsub_s0X → wsub_e0_0X) (a0 : Elem) (a1 : Elem) : OT wsub_S.Y :=
  let z0 : (PUnit × PUnit × PUnit × PUnit × UInt64 × Int × PUnit) × List UInt64 × List UInt64 × List UInt64 × List UInt64 × PUnit := (((), (), (), (), (0 : UInt64), (0 : Int), ()), [a0.w0, a0.w1, a0.w2, a0.w3], [a1.w0, a1.w1, a1.w2, a1.w3], [(0 : UInt64), (0 : UInt64), (0 : UInt64), (0 : UInt64)], [(0 : UInt64), (0 : UInt64), (0 : UInt64), (0 : UInt64)], ())
  let z1 : (PUnit × PUnit × UInt64 × PUnit) × List UInt64 × List UInt64 × PUnit := g0_0 z0
  let z2 := z1.snd
  let z3 := z2.snd.fst
  let z4 := z2.fst
  let z5 : List UInt64 := lay z4 z3 4 (0 : UInt64)
  (gd [ok0 z0, decide (4 ≤ List.length z3), decide ((4 / 1 : Nat) + 0 ≤ List.length z4), decide (4 ≤ List.length z5)] (.ok ⟨wsub_o0, (({ w0 := List.getD z5 0 0, w1 := List.getD z5 1 0, w2 := List.getD z5 2 0, w3 := List.getD z5 3 0 }, (!z1.fst.snd.snd.fst == (0 : UInt64), ())), ())⟩))
theorem wsub_q (ok0 : wsub_s0X → Bool) (g0_0 : wsub_s0X → wsub_e0_0X) (x : wsubX) (Q : wsub_S.Y → Prop) : wpf te E_wadd (lamCons 0 (loopF wsub_s0 0 ok0 (wsub_f0 g0_0)) lamNil) 1000 Try.f91 (wsub_S.inp.inj x).tm (wsub_S.inp.inj x).hp (fnK wsub_S wsub_sel Q) (fun _ _ => False) = (wsub_T ok0 g0_0 (x.1.1) (x.1.2.1)).wpR Q := by kernel_rfl
theorem wsub_main (ok0 : wsub_s0X → Bool) (g0_0 : wsub_s0X → wsub_e0_0X) (h0 : ∀ s : wsub_s0X, ok0 s = true → ∃ m e, loopRun (wsub_U0) m s = some e ∧ (wsub_f0 g0_0 s).run = some e) (pre : wsubX → Bool) (F : wsubX → OT wsub_S.Y) (hF : ∀ (x : wsubX) oy, pre x = true → (F x).run = some oy → (wsub_T ok0 g0_0 (x.1.1) (x.1.2.1)).run = some oy) : SummOk Try.prog 91 (wsub_S.summ pre F) :=
  fn_tree te_ok E_wadd_ok E_wadd_any (f := 91) (fn := Try.f91) (c := codeOf Try.f91) (by kernel_rfl) (by kernel_rfl) (by kernel_rfl) (S := wsub_S) (k := 0) (by kernel_rfl) (fun R hR => (lamOk_cons (c := (codeOf Try.f91)) (by kernel_rfl) (id := 0) (by kernel_rfl) (loop_ok te_ok E_wadd_ok E_wadd_any (sh := wsub_s0) hR (xs := wsub_x0) (xsMk_small (by kernel_rfl) (by kernel_rfl) hR) xsMk_pan lamOk_nil (n := 1000) (T := wsub_U0) (fun s Q => wsub_q0 s Q) (ok := ok0) (f := wsub_f0 g0_0) h0) lamOk_nil)) (n := 1000) (sel := wsub_sel) (fun v o h => by cases h; rfl) (pre := pre) (F := F) (T := fun x => wsub_T ok0 g0_0 (x.1.1) (x.1.2.1)) (fun x Q => wsub_q ok0 g0_0 x Q) hF
def subSt (a b : List UInt64) (k : Nat) (s : List UInt64 × UInt64) : List UInt64 × UInt64 := (s.1.set k (subC (a.getD k 0) (b.getD k 0) s.2), subK (a.getD k 0) (b.getD k 0) s.2)
def wsub_ok0 (s : wsub_s0X) : Bool := decide (s.1.2.2.2.2.1 = 0 ∧ s.1.2.2.2.2.2.1 = 0 ∧ s.2.1.length = 4 ∧ s.2.2.1.length = 4 ∧ s.2.2.2.2.1 = [0, 0, 0, 0])
def wsub_g0 (s : wsub_s0X) : wsub_e0_0X := (((), (), (upto (subSt s.2.1 s.2.2.1) ([0, 0, 0, 0], 0) 4).2, ()), (s.2.2.2.1, (upto (subSt s.2.1 s.2.2.1) ([0, 0, 0, 0], 0) 4).1, ()))
theorem wsub_h0 : ∀ s : wsub_s0X, wsub_ok0 s = true → ∃ m e, loopRun wsub_U0 m s = some e ∧ (wsub_f0 wsub_g0 s).run = some e := by
  rintro ⟨⟨⟨⟩, ⟨⟩, ⟨⟩, ⟨⟩, c, i, ⟨⟩⟩, ⟨c0, c1, c2, c3, ⟨⟩⟩⟩ h
  have h' := of_decide_eq_true h
  dsimp only at h'
  obtain ⟨rfl, rfl, h0, h1, rfl⟩ := h'
  have := (loop_upto (T := wsub_U0) (fun k s => ((((), (), (), (), s.2, (k : Int), ()), (c0, c1, c2, s.1, ())) : wsub_s0X)) (subSt c0 c1)
    (fun s => (⟨(.exit 0, wsub_e0_0), (((), (), s.2, ()), (c2, s.1, ()))⟩ : LEnd)) 4 ([0, 0, 0, 0], 0) (fun _ s => s.1.length = 4 ∧ s.2.toNat ≤ 1) ⟨rfl, by decide⟩ (fun k s hk hs => ⟨?_, ?_⟩) (fun s hs => ?_)).1
  · obtain ⟨m, hm⟩ := this
    exact ⟨m, _, hm, rfl⟩
  · refine (OT.run_t (decide_eq_true (by dsimp only; omega))).trans ((gd_run ?_).trans ?_)
    · simp only [Int.toNat_natCast, Nat.add_zero, h0, h1, hs.1, List.all_cons, List.all_nil, Bool.and_true, Bool.and_eq_true]
      exact ⟨inB_of (by omega), decide_eq_true (by omega), inB_of (by omega), decide_eq_true (by omega), decide_eq_true hs.2, inB_of (by omega), decide_eq_true (by omega), inR_of (by omega)⟩
    · simp only [OT.run_ok, Int.toNat_natCast, Nat.add_zero]
      rfl
  · exact ⟨by simp only [subSt, List.length_set]; exact hs.1, subK_le⟩
  · exact OT.run_f (decide_eq_false (by dsimp only; omega))
def wsub_pre (_ : wsubX) : Bool := true
def wsub_F (x : wsubX) : OT wsub_S.Y := .ok ⟨wsub_o0, (((wdif x.1.1 x.1.2.1).1, ((wdif x.1.1 x.1.2.1).2, ())), ())⟩
theorem wsub_ok : SummOk Try.prog 91 (wsub_S.summ wsub_pre wsub_F) := wsub_main wsub_ok0 wsub_g0 wsub_h0 _ _ fun x oy hp ho => by
  rw [← ho]
  clear ho
  obtain ⟨⟨a, b, ⟨⟩⟩, ⟨⟩⟩ := x
  obtain ⟨_, hw⟩ := wdif_words a b
  refine (gd_run ?_).trans ?_
  · simp only [List.all_cons, List.all_nil, Bool.and_true, Bool.and_eq_true]
    exact ⟨rfl, rfl, rfl, rfl⟩
  · simp only [wsub_F, hw]
    rfl
def wsub_summ : Summ := (wsub_S.summ wsub_pre wsub_F)
theorem wsub_known : SummOk Try.prog 91 wsub_summ := wsub_ok
theorem wsub_smono : MonoOk wsub_summ := fn_mono
def E_wsub : Env := envCons 91 wsub_summ E_wadd
theorem E_wsub_ok : EnvOk Try.prog E_wsub := envOk_cons wsub_known E_wadd_ok
theorem E_wsub_mono : EnvMono E_wsub := envMono_cons wsub_smono E_wadd_mono
theorem E_wsub_any : AnyOk Try.prog te E_wsub := any_ok follows te_ok E_wsub_ok E_wsub_mono
end Go.Proofs.Ytkedomfjjahjnaa
