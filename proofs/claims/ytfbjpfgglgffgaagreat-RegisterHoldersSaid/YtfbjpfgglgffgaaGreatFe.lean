/- Contracts of package supercargoref23, fifth part: Wrong. -/
import Derived.Test.YtfbjpfgglgffgaaGreatFd
set_option linter.unusedVariables false
set_option linter.unusedSimpArgs false
set_option linter.unusedSectionVars false
set_option linter.unnecessarySimpa false
namespace Go.SK
open Go
attribute [local semireducible] CW LW QW Ret Kn
section
variable {P : Program} {n : Nat} {fr : Fr} {w : World} {Q : Exit → Act → World → Prop}
/-- A cut behind a piece of code: what is known there, by a ghost state. -/
theorem cw_then_cut {α : Type} {x : Code} {K : Act → World → Prop} (F : α → Fr) (I : α → World → Prop) (h1 : CW P x (Exit.then (fun a w => ∃ s, Kn n (F s) a ∧ I s w) Q) n fr w) (h2 : ∀ s w', I s w' → QW (Exit.then K Q) .normal n (F s) w') : CW P x (Exit.then K Q) n fr w :=
  cw_mono h1 fun e a w h => by
    cases e with
    | normal => obtain ⟨s, hk, hI⟩ := h; exact h2 s w hI a hk
    | _ => exact h
theorem qw_cut {α : Type} {F : α → Fr} {I : α → World → Prop} (s : α) (hs : subB (F s) fr) (hI : I s w) : QW (Exit.then (fun a w => ∃ s, Kn n (F s) a ∧ I s w) Q) .normal n fr w := fun _ hk => ⟨s, hk.sub (sub_of hs), hI⟩
end
end Go.SK
namespace Go.Proofs.YtfbjpfgglgffgaaGreat
open Go Go.SK

theorem fidx_cases (l : List EntD) (num : ByteArray) :
    (fidx (fun e => decide (e.bill.number = num)) l = -1 ∧ RegD.at? ⟨⟨#[]⟩, l⟩ num = none) ∨ ∃ (i : Nat) (hi : i < l.length), fidx (fun e => decide (e.bill.number = num)) l = i ∧ RegD.at? ⟨⟨#[]⟩, l⟩ num = some l[i] := by
  unfold RegD.at? fidx
  have hp : (fun e : EntD => decide (num = e.bill.number)) = fun e => decide (e.bill.number = num) := by
    funext e; by_cases h : num = e.bill.number
    · simp [h]
    · have : ¬ e.bill.number = num := fun h' => h h'.symm
      simp [h, this]
  dsimp only
  rw [hp]
  induction l with
  | nil => exact .inl ⟨rfl, rfl⟩
  | cons x l ih =>
    by_cases h : x.bill.number = num
    · exact .inr ⟨0, by simp, by simp [List.findIdx?_cons, h], by simp [h]⟩
    · rcases ih with ⟨h1, h2⟩ | ⟨i, hi, h1, h2⟩
      · left
        refine ⟨?_, by simp [h, h2]⟩
        cases hf : l.findIdx? (fun e => decide (e.bill.number = num)) with
        | none => simp [List.findIdx?_cons, h, hf]
        | some k => rw [hf] at h1; simp at h1
      · right
        refine ⟨i + 1, by simp; omega, ?_, by simp [h, h2]⟩
        cases hf : l.findIdx? (fun e => decide (e.bill.number = num)) with
        | none => rw [hf] at h1; simp at h1
        | some k => rw [hf] at h1; simp at h1; simp [List.findIdx?_cons, h, hf, h1]
theorem at_carrier (c c' : ByteArray) (l : List EntD) (num : ByteArray) : RegD.at? ⟨c, l⟩ num = RegD.at? ⟨c', l⟩ num := rfl
def whichN (a : ActD) : List Nat := (whichD a).map Int.toNat
def badIx (a : ActD) : Bool := (decide (a.kind ≠ 5) && (decide (a.index < 0) || decide (a.index > 2))) && !(decide (a.kind = 1) && decide (a.index = -1))
def badArg (a : ActD) : Bool := (decide (a.kind ≠ 3) && !dayB a.day) || (decide (a.kind = 1) && (!nameB a.to_ || decide (a.to_ = a.by_)))
def stW (a : ActD) : Int := if a.kind = 4 then 3 else 0
def wrongE (x : EntD) (a : ActD) : Int :=
  if badIx a then 3 else if badArg a then 1
  else if (whichN a).any (fun k => decide (x.state ≠ 0) || decide ((papAt x k).state ≠ stW a)) then 9
  else if (whichN a).any (fun k => decide ((papAt x k).holder ≠ a.by_)) then 8
  else if (whichN a).any (fun k => decide (a.kind ≠ 3) && decide (a.day < untilD x.bill (papAt x k))) then 6 else 0
theorem goodIx {a : ActD} (hk : 1 ≤ a.kind ∧ a.kind ≤ 5) (h : badIx a = false) : whichD a = (whichN a).map (fun k : Nat => (k : Int)) ∧ whichN a = ixs a.ask.index ∧ whichN a ≠ [] := by
  have : a.kind = 1 ∨ a.kind = 2 ∨ a.kind = 3 ∨ a.kind = 4 ∨ a.kind = 5 := by omega
  simp only [badIx] at h
  by_cases h5 : a.kind = 5 ∨ (a.kind = 1 ∧ a.index = -1)
  · have e : whichD a = [0, 1, 2] := by unfold whichD; rw [if_pos h5]
    have ei : a.ask.index = -1 := by
      rcases h5 with h5 | ⟨h5, h6⟩
      · simp [ActD.ask, h5]
      · simp [ActD.ask, h5, h6]
    unfold whichN; rw [e, ei]; exact ⟨rfl, rfl, by simp⟩
  · have e : whichD a = [a.index] := by unfold whichD; rw [if_neg h5]
    have h1 : a.kind ≠ 5 := fun h => h5 (.inl h)
    have h2 : 0 ≤ a.index ∧ a.index ≤ 2 := by
      have h6 : ¬ (a.kind = 1 ∧ a.index = -1) := fun h => h5 (.inr h)
      simp only [Bool.and_eq_false_iff, Bool.or_eq_false_iff, Bool.not_eq_false', Bool.and_eq_true, decide_eq_false_iff_not, decide_eq_true_eq] at h
      omega
    have ei : a.ask.index = a.index := by
      have ho : oneI a.index = a.index := by unfold oneI; rw [if_neg (by omega)]
      rcases this with h | h | h | h | h <;> simp [ActD.ask, h, ho]
      exact absurd h h1
    unfold whichN; rw [e, ei]
    have : a.index = 0 ∨ a.index = 1 ∨ a.index = 2 := by omega
    rcases this with h | h | h <;> rw [h] <;> exact ⟨rfl, rfl, by simp⟩
theorem wrongE_eq {x : EntD} {a : ActD} (hk : 1 ≤ a.kind ∧ a.kind ≤ 5) : wrongE x a = askE x a.ask := by
  have hks : a.kind = 1 ∨ a.kind = 2 ∨ a.kind = 3 ∨ a.kind = 4 ∨ a.kind = 5 := by omega
  rw [askE_eq]
  cases hb : badIx a with
  | true =>
    have h0 : asks x a.ask 0 = true := by
      simp only [badIx, Bool.and_eq_true, decide_eq_true_eq, Bool.or_eq_true, Bool.not_eq_true', Bool.and_eq_false_iff, decide_eq_false_iff_not] at hb
      obtain ⟨⟨h1, h2⟩, h3⟩ := hb
      have one0 : ixs (oneI a.index) = [] := by
        unfold oneI
        by_cases h : a.index = -1
        · rw [if_pos h]; rfl
        · rw [if_neg h]; unfold ixs; rw [if_neg h, if_neg (by omega), if_neg (by omega), if_neg (by omega)]
      have : ixs a.ask.index = [] := by
        rcases hks with h | h | h | h | h
        · have hn : ¬ a.index = -1 := by rcases h3 with h3 | h3; exact absurd h h3; exact h3
          have : a.ask.index = a.index := by simp [ActD.ask, h]
          rw [this]; unfold ixs; rw [if_neg hn, if_neg (by omega), if_neg (by omega), if_neg (by omega)]
        · have : a.ask.index = oneI a.index := by simp [ActD.ask, h]
          rw [this]; exact one0
        · have : a.ask.index = oneI a.index := by simp [ActD.ask, h]
          rw [this]; exact one0
        · have : a.ask.index = oneI a.index := by simp [ActD.ask, h]
          rw [this]; exact one0
        · exact absurd h h1
      simp [asks, this]
    unfold wrongE; rw [if_pos hb, if_pos h0]
  | false =>
    obtain ⟨e1, e2, e3⟩ := goodIx hk hb
    have h0 : asks x a.ask 0 = false := by
      simp only [asks, ← e2]
      cases hw : whichN a with
      | nil => exact absurd hw e3
      | cons _ _ => simp
    have h1 : asks x a.ask 1 = badArg a := by
      rcases hks with h | h | h | h | h <;> simp [asks, badArg, ActD.ask, h]
    have h2 : asks x a.ask 2 = (whichN a).any (fun k => decide (x.state ≠ 0) || decide ((papAt x k).state ≠ stW a)) := by
      simp only [asks, ← e2]
      have es : a.ask.state = stW a := by rcases hks with h | h | h | h | h <;> simp [ActD.ask, stW, h]
      rw [es]
      cases hd : decide (x.state ≠ 0) with
      | true =>
        cases hw : whichN a with
        | nil => exact absurd hw e3
        | cons _ _ => simp
      | false => simp
    have h3 : asks x a.ask 3 = (whichN a).any (fun k => decide ((papAt x k).holder ≠ a.by_)) := by
      simp only [asks, ← e2]
      have es : a.ask.by_ = a.by_ := by rcases hks with h | h | h | h | h <;> simp [ActD.ask, h]
      rw [es]
    have h4 : asks x a.ask 4 = (whichN a).any (fun k => decide (a.kind ≠ 3) && decide (a.day < untilD x.bill (papAt x k))) := by
      simp only [asks, ← e2]
      rcases hks with h | h | h | h | h <;> simp [ActD.ask, h]
    rw [h0, h1, h2, h3, h4]
    unfold wrongE; rw [hb]
end Go.Proofs.YtfbjpfgglgffgaaGreat
