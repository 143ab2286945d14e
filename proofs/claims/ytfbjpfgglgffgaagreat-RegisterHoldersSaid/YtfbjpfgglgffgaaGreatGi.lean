/- Plain lemmas on the model for RegisterLost: an original that is lost. No program in sight. -/
import Derived.Test.YtfbjpfgglgffgaaGreatGg
set_option linter.unusedVariables false
set_option linter.unusedSimpArgs false
set_option linter.unusedSectionVars false
set_option linter.unnecessarySimpa false
namespace Go.Proofs.YtfbjpfgglgffgaaGreat
open Go Go.SK

theorem goC_right : ∀ {l : List EndD} {c c' : ChD} {i i' : Nat}, goC c i l = (c', i', 0) → ∀ x ∈ l, endB x = true
  | [], _, _, _, _, _, x, hx => by simp at hx
  | y :: l, c, c', i, i', h, x, hx => by
    simp only [goC] at h
    by_cases e : wrongC c y ≠ 0
    · rw [if_pos e] at h
      simp only [Prod.mk.injEq] at h
      exact absurd h.2.2 e
    · rw [if_neg e] at h
      rcases List.mem_cons.1 hx with rfl | hx
      · cases hb : endB x with
        | true => rfl
        | false => exact absurd (by simp [wrongC, hb]) e
      · exact goC_right h x hx
theorem until_max {k : Nat} {c : ByteArray} {e : EntD} (h : EntG k c e) {q : PapD} (hq : q ∈ e.ps) : untilD e.bill q ≤ 1048576 := by
  unfold untilD
  cases hl : q.chain.getLast? with
  | none =>
    have hm := h.may
    simp only [mayB, Bool.and_eq_true, dayB, decide_eq_true_eq] at hm
    exact hm.2.2.2.2.2.2
  | some x =>
    have := goC_right (h.pap q hq).go x (List.mem_of_getLast? hl)
    simp only [endB, Bool.and_eq_true, decide_eq_true_eq] at this
    exact this.1.2.2
theorem act_refused {r : RegD} {a : ActD} {x : EntD} (hk : 1 ≤ a.kind ∧ a.kind ≤ 5) (hat : r.at? a.bill = some x) (h : askE x a.ask ≠ 0) : actC r a ≠ 0 ∧ doA r a = r := by
  have e : askC r a.ask = askE x a.ask := by unfold askC; rw [ask_bill hk, hat]
  unfold actC doA
  rw [if_neg (by omega), if_neg (by omega), e, if_neg h]
  exact ⟨h, rfl⟩
theorem act_done {r : RegD} {a : ActD} {x : EntD} (hk : 1 ≤ a.kind ∧ a.kind ≤ 5) (hat : r.at? a.bill = some x) (h : askE x a.ask = 0) : actC r a = 0 ∧ (doA r a).at? a.bill = some (x.after a) := by
  obtain ⟨h1, h2⟩ := at_step hk hat
  unfold stepE at h2
  rw [if_pos h] at h2
  exact ⟨h1.trans h, h2⟩
def loseA (bill by_ : ByteArray) (i : Int) : ActD := ⟨3, i, 0, bill, by_, ⟨#[]⟩, zeroB⟩
def surrA (bill by_ : ByteArray) (day i : Int) : ActD := ⟨2, i, day, bill, by_, ⟨#[]⟩, zeroB⟩
def replA (bill by_ : ByteArray) (day i : Int) : ActD := ⟨4, i, day, bill, by_, ⟨#[]⟩, zeroB⟩
def retiA (bill by_ : ByteArray) (day : Int) : ActD := ⟨5, -1, day, bill, by_, ⟨#[]⟩, zeroB⟩
theorem oneI_nat {i : Nat} (hi : i < 3) : oneI (i : Int) = i := by unfold oneI; rw [if_neg (by omega)]
theorem lose_after (x : EntD) (bill by_ : ByteArray) {i : Nat} (hi : i < 3) : x.after (loseA bill by_ i) = { x with ps := onIx [i] (stateP 3) x.ps } := by simp [EntD.after, loseA, ixs_nat hi]
theorem repl_after (x : EntD) (bill by_ : ByteArray) (day : Int) {i : Nat} (hi : i < 3) : x.after (replA bill by_ day i) = { x with ps := onIx [i] (stateP 0) x.ps } := by simp [EntD.after, replA, ixs_nat hi]
theorem surr_after (x : EntD) (bill by_ : ByteArray) (day : Int) {i : Nat} (hi : i < 3) : x.after (surrA bill by_ day i) = { x with state := 1, ps := onIx [i] (stateP 1) (x.ps.map (stateP 2)) } := by simp [EntD.after, surrA, ixs_nat hi]
/-- What is lost does nothing. -/
theorem lost_no {x : EntD} {i : Nat} {a : AskD} (hs : (papAt x i).state = 3) (hi : i ∈ ixs a.index) (ha : a.state = 0) : askE x a ≠ 0 := by
  intro h
  have := ((ask_ok h).2.2.1 i hi).1
  rw [hs, ha] at this; cases this
theorem lost_again {x : EntD} {i : Nat} (hi : i < 3) {bill by_ : ByteArray} (hs : (papAt x i).state = 3) : askE x (loseA bill by_ i).ask = 9 := by
  have e : (loseA bill by_ i).ask = ⟨bill, by_, (i : Nat), 0, false, 0, ⟨#[]⟩, false⟩ := by simp [ActD.ask, loseA, oneI_nat hi]
  rw [e]
  refine askE_at (i := 2) (by decide) ?_ ?_
  · simp only [asks, ixs_nat hi]; simp [hs]
  · intro j hj
    match j, hj with
    | 0, _ => simp [asks, ixs_nat hi]
    | 1, _ => rfl
theorem repl_no {x : EntD} {i : Nat} (hi : i < 3) {bill by_ : ByteArray} (hs : x.state ≠ 0) : askE x (replA bill by_ 1048576 i).ask = 9 := by
  have e : (replA bill by_ 1048576 i).ask = ⟨bill, by_, (i : Nat), 3, true, 1048576, ⟨#[]⟩, false⟩ := by simp [ActD.ask, replA, oneI_nat hi]
  rw [e]
  refine askE_at (i := 2) (by decide) ?_ ?_
  · simp only [asks]; simp [hs]
  · intro j hj
    match j, hj with
    | 0, _ => simp [asks, ixs_nat hi]
    | 1, _ => rfl
theorem surr_yes {x : EntD} {i : Nat} (hi : i < 3) {bill : ByteArray} (hx : x.state = 0) (hs : (papAt x i).state = 0) (hu : untilD x.bill (papAt x i) ≤ 1048576) : askE x (surrA bill (papAt x i).holder 1048576 i).ask = 0 := by
  have e : (surrA bill (papAt x i).holder 1048576 i).ask = ⟨bill, (papAt x i).holder, (i : Nat), 0, true, 1048576, ⟨#[]⟩, false⟩ := by simp [ActD.ask, surrA, oneI_nat hi]
  rw [e, ask_iff]
  simp only [ixs_nat hi]
  exact ⟨by simp, hx, fun k hk => by simp at hk; subst hk; exact ⟨hs, rfl⟩, fun _ => ⟨rfl, fun k hk => by simp at hk; subst hk; exact hu⟩, fun h => by cases h⟩
theorem repl_yes {x : EntD} {i : Nat} (hi : i < 3) {bill by_ : ByteArray} (hx : x.state = 0) (hs : (papAt x i).state = 3) (hb : (papAt x i).holder = by_) (hu : untilD x.bill (papAt x i) ≤ 1048576) : askE x (replA bill by_ 1048576 i).ask = 0 := by
  have e : (replA bill by_ 1048576 i).ask = ⟨bill, by_, (i : Nat), 3, true, 1048576, ⟨#[]⟩, false⟩ := by simp [ActD.ask, replA, oneI_nat hi]
  rw [e, ask_iff]
  simp only [ixs_nat hi]
  exact ⟨by simp, hx, fun k hk => by simp at hk; subst hk; exact ⟨hs, hb⟩, fun _ => ⟨rfl, fun k hk => by simp at hk; subst hk; exact hu⟩, fun h => by cases h⟩
theorem pap_of {r : RegD} {n : ByteArray} {x : EntD} (h : r.at? n = some x) (h3 : x.ps.length = 3) {i : Nat} (hi : i < 3) : r.pap n (i : Int) = some (x, papAt x i) := by
  unfold RegD.pap
  rw [h]
  simp only
  rw [if_pos (by omega)]
  rfl
theorem holder_of {r : RegD} {n : ByteArray} {x : EntD} (h : r.at? n = some x) (h3 : x.ps.length = 3) {i : Nat} (hi : i < 3) (hx : x.state = 0) (hs : (papAt x i).state = 0 ∨ (papAt x i).state = 3) : r.holderOf n (i : Int) = some (papAt x i).holder := by
  unfold RegD.holderOf
  rw [pap_of h h3 hi]
  simp only
  rw [if_pos ⟨hx, hs⟩]
theorem chain_of {r : RegD} {n : ByteArray} {x : EntD} (h : r.at? n = some x) (h3 : x.ps.length = 3) {i : Nat} (hi : i < 3) : r.chainOf n (i : Int) = (papAt x i).chain := by
  unfold RegD.chainOf
  rw [pap_of h h3 hi]
theorem orig_at {r : RegD} {n : ByteArray} {x : EntD} (h : r.at? n = some x) (h3 : x.ps.length = 3) {i : Nat} (hi : i < 3) : (r.origsOf n)[i]? = some (papAt x i, i) ∧ (r.origsOf n).length = 3 := by
  rw [origs_of h]
  refine ⟨by simp [papAt_get h3 hi], by simp [h3]⟩
end Go.Proofs.YtfbjpfgglgffgaaGreat
