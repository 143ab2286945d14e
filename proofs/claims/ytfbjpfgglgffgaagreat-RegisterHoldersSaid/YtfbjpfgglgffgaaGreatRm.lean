/- Contracts of package register, thirteenth part: Endorse. -/
import Derived.Test.YtfbjpfgglgffgaaGreatEb
set_option linter.unusedVariables false
set_option linter.unusedSimpArgs false
set_option linter.unusedSectionVars false
set_option linter.unnecessarySimpa false
namespace Go.Proofs.YtfbjpfgglgffgaaGreat
open Go Go.SK

/-! ### Chains that are right -/
theorem goC_snoc {x : EndD} : ∀ {l : List EndD} {c c' : ChD} {i i' : Nat}, goC c i l = (c', i', 0) → wrongC c' x = 0 → goC c i (l ++ [x]) = (onC x, i' + 1, 0)
  | [], c, c', i, i', h, hx => by
    simp only [goC, Prod.mk.injEq] at h
    obtain ⟨rfl, rfl, _⟩ := h
    simp [goC, hx]
  | y :: l, c, c', i, i', h, hx => by
    simp only [goC, List.cons_append] at h ⊢
    by_cases e : wrongC c y ≠ 0
    · rw [if_pos e] at h
      simp only [Prod.mk.injEq] at h
      exact absurd h.2.2 e
    · rw [if_neg e] at h ⊢
      exact goC_snoc h hx
def firstOf (q : PapD) : ByteArray := match q.chain with
  | [] => q.holder
  | x :: _ => x.frm
def lastOf (q : PapD) : Int := match q.chain.getLast? with
  | some x => x.day
  | none => 0
structure PapInv (q : PapD) : Prop where
  name : nameB q.holder = true
  size : q.holder.size ≤ maxLen
  ok : ∀ x ∈ q.chain, x.Ok
  go : goC ⟨firstOf q, false, false, 0⟩ 0 q.chain = (⟨q.holder, false, false, lastOf q⟩, q.chain.length, 0)
  fname : nameB (firstOf q) = true
  fsize : (firstOf q).size ≤ maxLen
def newE (by_ to_ : ByteArray) (day : Int) : EndD := ⟨by_, to_, 0, day⟩
theorem endorse_inv {q : PapD} {b : BillD} {by_ to_ : ByteArray} {day : Int} (h : PapInv q) (hb : by_ = q.holder) (hn : nameB to_ = true) (hne : to_ ≠ by_) (hd : dayB day = true) (hu : untilD b q ≤ day) (hs : to_.size ≤ maxLen) :
    PapInv (endorseP by_ to_ day q) ∧ firstOf (endorseP by_ to_ day q) = firstOf q := by
  subst hb
  have hd' : 0 ≤ day ∧ day ≤ 1048576 := by simpa [dayB] using hd
  have hlast : lastOf q ≤ day := by
    unfold lastOf
    unfold untilD at hu
    cases hc : q.chain.getLast? with
    | none => exact hd'.1
    | some x => rw [hc] at hu; exact hu
  have hend : endB (newE q.holder to_ day) = true := by simp [endB, newE, h.name, hd', hn, hne]
  have hw : wrongC ⟨q.holder, false, false, lastOf q⟩ (newE q.holder to_ day) = 0 := by
    simp only [wrongC, hend]
    simp [newE]; omega
  have hf : firstOf (endorseP q.holder to_ day q) = firstOf q := by
    cases hc : q.chain <;> simp [firstOf, endorseP, hc]
  refine ⟨⟨hn, hs, ?_, ?_, by rw [hf]; exact h.fname, by rw [hf]; exact h.fsize⟩, hf⟩
  · intro x hx
    simp only [endorseP, List.mem_append, List.mem_singleton] at hx
    rcases hx with hx | rfl
    · exact h.ok x hx
    · exact ⟨h.size, hs⟩
  · rw [hf]
    have := goC_snoc (x := newE q.holder to_ day) h.go hw
    simp only [endorseP]
    rw [show (⟨q.holder, to_, 0, day⟩ : EndD) = newE q.holder to_ day from rfl, this]
    simp [onC, newE, lastOf]
/-- Whom the chain tells. -/
theorem PapInv.tells {q : PapD} (h : PapInv q) {f : ByteArray} (hf : f = firstOf q) : (followC f q.chain).1.holder = q.holder := by
  subst hf; unfold followC; rw [if_pos h.fname, h.go]

/-! ### Some originals given on -/
theorem onIx_step {index : Int} {i k : Nat} (f : PapD → PapD) {ps : List PapD} (h3 : ps.length = 3) (hk : (ixs index)[i]? = some k) :
    onIx ((ixs index).take (i + 1)) f ps = onIx [k] f (onIx ((ixs index).take i) f ps) ∧ (onIx ((ixs index).take i) f ps)[k]? = ps[k]? := by
  obtain ⟨a, b, c, rfl⟩ := three_cases h3
  unfold ixs at *
  by_cases h0 : index = -1
  · simp only [if_pos h0] at *
    match i, hk with
    | 0, hk => simp at hk; subst hk; exact ⟨rfl, rfl⟩
    | 1, hk => simp at hk; subst hk; exact ⟨rfl, rfl⟩
    | 2, hk => simp at hk; subst hk; exact ⟨rfl, rfl⟩
    | _ + 3, hk => simp at hk
  · simp only [if_neg h0] at *
    have one : ∀ j : Nat, j < 3 → [j][i]? = some k → onIx ([j].take (i + 1)) f [a, b, c] = onIx [k] f (onIx ([j].take i) f [a, b, c]) ∧ (onIx ([j].take i) f [a, b, c])[k]? = [a, b, c][k]? := by
      intro j hj hk
      match i, hk with
      | 0, hk => simp at hk; subst hk; exact ⟨by simp [onIx], by simp [onIx]⟩
      | _ + 1, hk => simp at hk
    split at hk
    · next h1 => simp only [if_pos h1]; exact one 0 (by omega) hk
    · next h1 =>
      simp only [if_neg h1]
      split at hk
      · next h2 => simp only [if_pos h2]; exact one 1 (by omega) hk
      · next h2 =>
        simp only [if_neg h2]
        split at hk
        · next h3 => simp only [if_pos h3]; exact one 2 (by omega) hk
        · simp at hk
theorem set_pap {x : EntD} {g : GhostE} (h1 : x.ps.length = 3) (h2 : g.vcs.length = 3) {k : Nat} (hk : k < 3) (by_ to_ : ByteArray) (day : Int) (v : Value) :
    ((entCells x g).set (10 + k * 3 + 2) v).set (10 + k * 3 + 1) (.string to_) = entCells { x with ps := onIx [k] (endorseP by_ to_ day) x.ps } { g with vcs := g.vcs.set k v } := by
  obtain ⟨a, b, c, ha⟩ := three_cases h1
  obtain ⟨u, y, z, hu⟩ := three_cases h2
  unfold entCells
  simp only [ha, hu]
  match k, hk with
  | 0, _ => rfl
  | 1, _ => rfl
  | 2, _ => rfl
end Go.Proofs.YtfbjpfgglgffgaaGreat
