/- Plain lemmas on the model for RegisterAll and RegisterLost. No program in sight. -/
import Derived.Test.YtfbjpfgglgffgaaGreatGf
import Derived.Test.YtfbjpfgglgffgaaGreatRe
set_option linter.unusedVariables false
set_option linter.unusedSimpArgs false
set_option linter.unusedSectionVars false
set_option linter.unnecessarySimpa false
namespace Go.Proofs.YtfbjpfgglgffgaaGreat
open Go Go.SK

theorem ask_iff {x : EntD} {a : AskD} : askE x a = 0 ↔ (ixs a.index ≠ [] ∧ x.state = 0 ∧ (∀ k ∈ ixs a.index, (papAt x k).state = a.state ∧ (papAt x k).holder = a.by_) ∧ (a.dated = true → dayB a.day = true ∧ ∀ k ∈ ixs a.index, untilD x.bill (papAt x k) ≤ a.day) ∧ (a.given = true → nameB a.to_ = true ∧ a.to_ ≠ a.by_)) := by
  refine ⟨ask_ok, fun ⟨h1, h2, h3, h4, h5⟩ => askE_ok fun j hj => ?_⟩
  match j, hj with
  | 0, _ => simp [asks, h1]
  | 1, _ =>
    have e1 : (a.dated && !dayB a.day) = false := by
      cases hd : a.dated with
      | false => rfl
      | true => simp [(h4 hd).1]
    have e2 : (a.given && (!nameB a.to_ || decide (a.to_ = a.by_))) = false := by
      cases hg : a.given with
      | false => rfl
      | true => simp [(h5 hg).1, (h5 hg).2]
    simp only [asks, e1, e2, Bool.or_self]
  | 2, _ =>
    have : ((ixs a.index).any fun k => decide ((papAt x k).state ≠ a.state)) = false := by rw [List.any_eq_false]; intro k hk; simp [(h3 k hk).1]
    simp only [asks, this, h2]; rfl
  | 3, _ =>
    show ((ixs a.index).any fun k => decide ((papAt x k).holder ≠ a.by_)) = false
    rw [List.any_eq_false]; intro k hk; simp [(h3 k hk).2]
  | 4, _ =>
    show (a.dated && (ixs a.index).any fun k => decide (a.day < untilD x.bill (papAt x k))) = false
    cases hd : a.dated with
    | false => rfl
    | true =>
      have : ((ixs a.index).any fun k => decide (a.day < untilD x.bill (papAt x k))) = false := by rw [List.any_eq_false]; intro k hk; have := (h4 hd).2 k hk; simp; omega
      rw [this]; rfl
/-- What an act makes of the entry that it speaks of. -/
def stepE (x : EntD) (a : ActD) : EntD := if askE x a.ask = 0 then x.after a else x
theorem at_step {r : RegD} {a : ActD} {x : EntD} (hk : 1 ≤ a.kind ∧ a.kind ≤ 5) (hat : r.at? a.bill = some x) : actC r a = askE x a.ask ∧ (doA r a).at? a.bill = some (stepE x a) := by
  have e : askC r a.ask = askE x a.ask := by unfold askC; rw [ask_bill hk, hat]
  have e1 : actC r a = askE x a.ask := by unfold actC; rw [if_neg (by omega), e]
  refine ⟨e1, ?_⟩
  unfold stepE
  by_cases h : askE x a.ask = 0
  · rw [if_pos h]
    obtain ⟨y, hy, hy'⟩ := at_do hk (e.trans h)
    rw [hat] at hy; cases hy; exact hy'
  · rw [if_neg h]
    unfold doA
    rw [if_neg (by omega), if_neg (by rw [e]; exact h)]
    exact hat
theorem act_none {r : RegD} {a : ActD} (hk : 1 ≤ a.kind ∧ a.kind ≤ 5) (hat : r.at? a.bill = none) : actC r a = 4 ∧ doA r a = r := by
  have e : askC r a.ask = 4 := by unfold askC; rw [ask_bill hk, hat]
  unfold actC doA
  rw [if_neg (by omega), if_neg (by omega), e]
  exact ⟨rfl, rfl⟩
theorem zeroB_ok : zeroB.Ok := by
  refine ⟨?_, ?_, ?_, ?_, ?_, ?_, ?_⟩ <;> first | (show _ ≤ maxLen; decide) | (intro x hx; simp [zeroB] at hx)
def endA (bill by_ to_ : ByteArray) (day k : Int) : ActD := ⟨1, k, day, bill, by_, to_, zeroB⟩
def allOk (x : EntD) (by_ to_ : ByteArray) (day : Int) : Prop := x.state = 0 ∧ dayB day = true ∧ nameB to_ = true ∧ to_ ≠ by_
def papOk (b : BillD) (by_ : ByteArray) (day : Int) (q : PapD) : Prop := q.state = 0 ∧ q.holder = by_ ∧ untilD b q ≤ day
theorem end_ask {x : EntD} {bill by_ to_ : ByteArray} {day k : Int} : askE x (endA bill by_ to_ day k).ask = 0 ↔ (ixs k ≠ [] ∧ allOk x by_ to_ day ∧ ∀ j ∈ ixs k, papOk x.bill by_ day (papAt x j)) := by
  rw [ask_iff]
  simp only [endA, ActD.ask, if_true, allOk, papOk]
  constructor
  · rintro ⟨h1, h2, h3, h4, h5⟩
    exact ⟨h1, ⟨h2, (h4 trivial).1, (h5 trivial).1, (h5 trivial).2⟩, fun j hj => ⟨(h3 j hj).1, (h3 j hj).2, (h4 trivial).2 j hj⟩⟩
  · rintro ⟨h1, ⟨h2, h3, h4, h5⟩, h6⟩
    exact ⟨h1, h2, fun j hj => ⟨(h6 j hj).1, (h6 j hj).2.1⟩, fun _ => ⟨h3, fun j hj => (h6 j hj).2.2⟩, fun _ => ⟨h4, h5⟩⟩
theorem end_after (x : EntD) (bill by_ to_ : ByteArray) (day k : Int) : x.after (endA bill by_ to_ day k) = { x with ps := onIx (ixs k) (endorseP by_ to_ day) x.ps } := by simp [EntD.after, endA]
theorem papAt_onIx {x y : EntD} {l : List Nat} {f : PapD → PapD} (h3 : x.ps.length = 3) (hy : y.ps = onIx l f x.ps) {j : Nat} (hj : j < 3) : papAt y j = if l.contains j then f (papAt x j) else papAt x j :=
  papAt_of (by rw [hy]; exact onIx_get (papAt_get h3 hj))
theorem ixs_nat {i : Nat} (hi : i < 3) : ixs (i : Int) = [i] := by match i, hi with | 0, _ => rfl | 1, _ => rfl | 2, _ => rfl
/-- An endorsement of one original leaves the others as they were. -/
theorem end_step {x y : EntD} (h3 : x.ps.length = 3) {bill by_ to_ : ByteArray} {day : Int} {i : Nat} (hi : i < 3) (hy : y = stepE x (endA bill by_ to_ day i)) :
    y.bill = x.bill ∧ y.state = x.state ∧ y.ps.length = 3 ∧ (∀ j, j < 3 → j ≠ i → papAt y j = papAt x j) ∧ (askE x (endA bill by_ to_ day i).ask = 0 → papAt y i = endorseP by_ to_ day (papAt x i)) := by
  have hix := ixs_nat hi
  unfold stepE at hy
  by_cases h : askE x (endA bill by_ to_ day i).ask = 0
  · rw [if_pos h, end_after, hix] at hy
    have hp : ∀ j, j < 3 → papAt y j = if [i].contains j then endorseP by_ to_ day (papAt x j) else papAt x j := fun j hj => papAt_onIx h3 (by rw [hy]) hj
    refine ⟨by rw [hy], by rw [hy], by rw [hy]; show (onIx _ _ _).length = 3; rw [onIx_len]; exact h3, fun j hj hne => ?_, fun _ => ?_⟩
    · rw [hp j hj]; simp [hne]
    · rw [hp i hi]; simp
  · rw [if_neg h] at hy
    subst hy
    exact ⟨rfl, rfl, h3, fun _ _ _ => rfl, fun h' => absurd h' h⟩
theorem full_of {r : RegD} {n who : ByteArray} {x : EntD} (h : r.at? n = some x) : r.fullOf n who = x.full who := by unfold RegD.fullOf; rw [h]
theorem full_iff {x : EntD} (h3 : x.ps.length = 3) {who : ByteArray} : x.full who = true ↔ x.state = 0 ∧ ∀ j, j < 3 → (papAt x j).state = 0 ∧ (papAt x j).holder = who := by
  unfold EntD.full
  simp only [Bool.and_eq_true, decide_eq_true_eq, Bool.not_eq_true', List.any_eq_false, Bool.or_eq_true, not_or, ne_eq, Decidable.not_not]
  constructor
  · rintro ⟨h1, h2⟩
    exact ⟨h1, fun j hj => h2 _ (List.mem_of_getElem? (papAt_get h3 hj))⟩
  · rintro ⟨h1, h2⟩
    refine ⟨h1, fun q hq => ?_⟩
    obtain ⟨j, hj⟩ := List.getElem?_of_mem hq
    have hjl : j < 3 := by have := (List.getElem?_eq_some_iff.1 hj).1; rwa [h3] at this
    have := h2 j hjl
    rwa [papAt_of hj] at this
/-- By the index -1 all are endorsed just if each could be alone. -/
theorem all_law {k : Nat} {r : RegD} (hG : Good k r) {bill by_ to_ : ByteArray} {day : Int} {c1 c2 c3 : RegD} (e1 : c1 = doA r (endA bill by_ to_ day 0)) (e2 : c2 = doA c1 (endA bill by_ to_ day 1)) (e3 : c3 = doA c2 (endA bill by_ to_ day 2)) :
    (actC r (endA bill by_ to_ day (-1)) = 0 ↔ (actC r (endA bill by_ to_ day 0) = 0 ∧ actC c1 (endA bill by_ to_ day 1) = 0 ∧ actC c2 (endA bill by_ to_ day 2) = 0)) ∧
    (actC r (endA bill by_ to_ day (-1)) = 0 → r.fullOf bill by_ = true ∧ (doA r (endA bill by_ to_ day (-1))).fullOf bill to_ = true ∧ c3.fullOf bill to_ = true ∧ (doA r (endA bill by_ to_ day (-1))).fullOf bill by_ = false) := by
  have hk : ∀ i : Int, 1 ≤ (endA bill by_ to_ day i).kind ∧ (endA bill by_ to_ day i).kind ≤ 5 := fun i => (show (1 : Int) ≤ 1 ∧ (1 : Int) ≤ 5 from ⟨by decide, by decide⟩)
  cases hat : r.at? bill with
  | none =>
    have h0 := (act_none (hk (-1)) hat).1
    have h1 := (act_none (hk 0) hat).1
    rw [h0, h1]
    exact ⟨⟨fun h => absurd h (by decide), fun h => absurd h.1 (by decide)⟩, fun h => absurd h (by decide)⟩
  | some x =>
    obtain ⟨_, i, hxi⟩ := at_some hat
    have h3 := (hG.ent x (List.mem_of_getElem? hxi)).three
    obtain ⟨y1, hy1⟩ : ∃ y1, y1 = stepE x (endA bill by_ to_ day ((0 : Nat) : Int)) := ⟨_, rfl⟩
    obtain ⟨y2, hy2⟩ : ∃ y2, y2 = stepE y1 (endA bill by_ to_ day ((1 : Nat) : Int)) := ⟨_, rfl⟩
    obtain ⟨y3, hy3⟩ : ∃ y3, y3 = stepE y2 (endA bill by_ to_ day ((2 : Nat) : Int)) := ⟨_, rfl⟩
    obtain ⟨b1, s1, l1, p1, q1⟩ := end_step h3 (by decide) hy1
    obtain ⟨b2, s2, l2, p2, q2⟩ := end_step l1 (by decide) hy2
    obtain ⟨b3, s3, l3, p3, q3⟩ := end_step l2 (by decide) hy3
    obtain ⟨a0, t0⟩ := at_step (hk 0) hat
    obtain ⟨am, tm⟩ := at_step (hk (-1)) hat
    rw [← e1] at t0
    replace t0 : c1.at? bill = some y1 := by rw [hy1]; exact t0
    obtain ⟨a1, t1⟩ := at_step (hk 1) (show c1.at? (endA bill by_ to_ day 1).bill = some y1 from t0)
    rw [← e2] at t1
    replace t1 : c2.at? bill = some y2 := by rw [hy2]; exact t1
    obtain ⟨a2, t2⟩ := at_step (hk 2) (show c2.at? (endA bill by_ to_ day 2).bill = some y2 from t1)
    rw [← e3] at t2
    replace t2 : c3.at? bill = some y3 := by rw [hy3]; exact t2
    rw [a0, a1, a2, am]
    have i0 : ixs 0 = [0] := rfl
    have i1 : ixs 1 = [1] := rfl
    have i2 : ixs 2 = [2] := rfl
    have im : ixs (-1) = [0, 1, 2] := rfl
    have c0 : askE x (endA bill by_ to_ day 0).ask = 0 ↔ allOk x by_ to_ day ∧ papOk x.bill by_ day (papAt x 0) := by rw [end_ask, i0]; simp
    have c1' : askE y1 (endA bill by_ to_ day 1).ask = 0 ↔ allOk x by_ to_ day ∧ papOk x.bill by_ day (papAt x 1) := by rw [end_ask, i1, b1, ← p1 1 (by decide) (by decide)]; simp [allOk, s1]
    have c2' : askE y2 (endA bill by_ to_ day 2).ask = 0 ↔ allOk x by_ to_ day ∧ papOk x.bill by_ day (papAt x 2) := by rw [end_ask, i2, b2, b1, ← p1 2 (by decide) (by decide), ← p2 2 (by decide) (by decide)]; simp [allOk, s1, s2]
    have cm : askE x (endA bill by_ to_ day (-1)).ask = 0 ↔ allOk x by_ to_ day ∧ papOk x.bill by_ day (papAt x 0) ∧ papOk x.bill by_ day (papAt x 1) ∧ papOk x.bill by_ day (papAt x 2) := by rw [end_ask, im]; simp
    refine ⟨by rw [c0, c1', c2', cm]; exact ⟨fun ⟨h, h0, h1, h2⟩ => ⟨⟨h, h0⟩, ⟨h, h1⟩, ⟨h, h2⟩⟩, fun ⟨⟨h, h0⟩, ⟨_, h1⟩, ⟨_, h2⟩⟩ => ⟨h, h0, h1, h2⟩⟩, fun h => ?_⟩
    have hm := h
    rw [cm] at h
    obtain ⟨hall, h0, h1, h2⟩ := h
    have pk : ∀ j, j < 3 → papOk x.bill by_ day (papAt x j) := fun j hj => by match j, hj with | 0, _ => exact h0 | 1, _ => exact h1 | 2, _ => exact h2
    have q1' := q1 (c0.2 ⟨hall, h0⟩)
    have q2' := q2 (c1'.2 ⟨hall, h1⟩)
    have q3' := q3 (c2'.2 ⟨hall, h2⟩)
    obtain ⟨z, hz⟩ : ∃ z, z = stepE x (endA bill by_ to_ day (-1)) := ⟨_, rfl⟩
    have tz : (doA r (endA bill by_ to_ day (-1))).at? bill = some z := by rw [hz]; exact tm
    have hzz : z = { x with ps := onIx (ixs (-1)) (endorseP by_ to_ day) x.ps } := by rw [hz]; unfold stepE; rw [if_pos hm, end_after]
    have zp : ∀ j, j < 3 → papAt z j = endorseP by_ to_ day (papAt x j) := fun j hj => by
      rw [papAt_onIx h3 (by rw [hzz]) hj, im]
      match j, hj with | 0, _ => rfl | 1, _ => rfl | 2, _ => rfl
    have zl : z.ps.length = 3 := by rw [hzz]; show (onIx _ _ _).length = 3; rw [onIx_len]; exact h3
    have zs : z.state = 0 := by rw [hzz]; exact hall.1
    refine ⟨?_, ?_, ?_, ?_⟩
    · rw [full_of hat, full_iff h3]; exact ⟨hall.1, fun j hj => ⟨(pk j hj).1, (pk j hj).2.1⟩⟩
    · rw [full_of tz, full_iff zl]; exact ⟨zs, fun j hj => by rw [zp j hj]; exact ⟨(pk j hj).1, rfl⟩⟩
    · rw [full_of t2, full_iff l3]
      refine ⟨by rw [s3, s2, s1]; exact hall.1, fun j hj => ?_⟩
      match j, hj with
      | 0, _ => rw [p3 0 (by decide) (by decide), p2 0 (by decide) (by decide), q1']; exact ⟨h0.1, rfl⟩
      | 1, _ => rw [p3 1 (by decide) (by decide), q2', p1 1 (by decide) (by decide)]; exact ⟨h1.1, rfl⟩
      | 2, _ => rw [q3', p2 2 (by decide) (by decide), p1 2 (by decide) (by decide)]; exact ⟨h2.1, rfl⟩
    · rw [full_of tz]
      cases hf : z.full by_ with
      | false => rfl
      | true =>
        rw [full_iff zl] at hf
        have := (hf.2 0 (by decide)).2
        rw [zp 0 (by decide)] at this
        exact absurd this hall.2.2.2
end Go.Proofs.YtfbjpfgglgffgaaGreat
