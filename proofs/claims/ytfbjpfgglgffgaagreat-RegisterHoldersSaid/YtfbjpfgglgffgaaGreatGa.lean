/- Plain Lean on the model: what holds of every register that acts have made. No program in sight. -/
import Derived.Test.YtfbjpfgglgffgaaGreatFg
set_option linter.unusedVariables false
set_option linter.unusedSimpArgs false
set_option linter.unusedSectionVars false
set_option linter.unnecessarySimpa false
namespace Go.Proofs.YtfbjpfgglgffgaaGreat
open Go Go.SK

def isDone (q : PapD) : Bool := decide (q.state = 1)
/-- How a bill and its originals may stand. -/
def StOk (e : EntD) : Prop :=
  (e.state = 0 ∧ ∀ q ∈ e.ps, q.state = 0 ∨ q.state = 3) ∨ (e.state = 1 ∧ (e.ps.filter isDone).length = 1 ∧ ∀ q ∈ e.ps, q.state = 1 ∨ q.state = 2) ∨ (e.state = 4 ∧ ∀ q ∈ e.ps, q.state = 2)
structure EntG (k : Nat) (c : ByteArray) (e : EntD) : Prop where
  three : e.ps.length = 3
  pap : ∀ q ∈ e.ps, PapInv q
  chain : ∀ q ∈ e.ps, q.chain.length ≤ k
  may : mayB c e.bill = true
  ok : e.bill.Ok
  st : StOk e
structure Good (k : Nat) (r : RegD) : Prop where
  nd : r.Nd
  len : r.l.length ≤ k
  ent : ∀ e ∈ r.l, EntG k r.carrier e
  box : ∀ (i j : Nat) (x y : EntD) (b : ByteArray), r.l[i]? = some x → r.l[j]? = some y → x.state = 0 → y.state = 0 → b ∈ x.bill.boxes → b ∈ y.bill.boxes → i = j
theorem may_len {c : ByteArray} {b : BillD} (h : mayB c b = true) : b.boxes.length ≤ 64 ∧ b.parents.length ≤ 64 ∧ onceB b.boxes = true ∧ nameB b.number = true := by
  simp only [mayB, Bool.and_eq_true, decide_eq_true_eq] at h
  obtain ⟨⟨⟨⟨h1, _⟩, _⟩, _⟩, _, ⟨⟨_, h2⟩, _, h3⟩, h4, _⟩ := h
  exact ⟨h3, h4, h2, h1⟩
theorem EntG.mono {k k' : Nat} {c : ByteArray} {e : EntD} (h : EntG k c e) (hk : k ≤ k') : EntG k' c e := ⟨h.three, h.pap, fun q hq => Nat.le_trans (h.chain q hq) hk, h.may, h.ok, h.st⟩
theorem Good.mono {k k' : Nat} {r : RegD} (h : Good k r) (hk : k ≤ k') : Good k' r := ⟨h.nd, Nat.le_trans h.len hk, fun e he => (h.ent e he).mono hk, h.box⟩
theorem Good.small {k : Nat} {r : RegD} (h : Good k r) (hk : k ≤ 1000000) : r.Small := fun e he => by
  have hE := h.ent e he
  have := may_len hE.may
  exact ⟨fun q hq => Nat.le_trans (hE.chain q hq) hk, by omega, by omega⟩
theorem Good.inv {k : Nat} {r : RegD} (h : Good k r) : ∀ e ∈ r.l, ∀ q ∈ e.ps, PapInv q := fun e he => (h.ent e he).pap
theorem good_new (c : ByteArray) : Good 0 ⟨c, []⟩ := ⟨fun i j x y h => by simp at h, Nat.le_refl _, fun e he => by simp at he, fun i j x y b h => by simp at h⟩
theorem onIx_mem {l : List Nat} {f : PapD → PapD} {ps : List PapD} {q' : PapD} (h : q' ∈ onIx l f ps) : ∃ (i : Nat) (q : PapD), ps[i]? = some q ∧ q' = if l.contains i then f q else q := by
  obtain ⟨i, hi⟩ := List.getElem?_of_mem h
  have hlt : i < ps.length := by have := (List.getElem?_eq_some_iff.1 hi).1; rwa [onIx_len] at this
  have hq := List.getElem?_eq_getElem hlt
  refine ⟨i, ps[i], hq, ?_⟩
  rw [onIx_get hq] at hi
  exact (Option.some.inj hi).symm
theorem PapInv.state {q : PapD} (h : PapInv q) (s : Int) : PapInv (stateP s q) := ⟨h.name, h.size, h.ok, h.go, h.fname, h.fsize⟩
theorem papAt_of {x : EntD} {i : Nat} {q : PapD} (h : x.ps[i]? = some q) : papAt x i = q := by simp [papAt, h]
theorem fil_one {ps : List PapD} (h : ps.length = 3) {k : Nat} (hk : k < 3) : ((onIx [k] (stateP 1) (ps.map (stateP 2))).filter isDone).length = 1 := by
  obtain ⟨a, b, c, rfl⟩ := three_cases h
  match k, hk with
  | 0, _ => rfl
  | 1, _ => rfl
  | 2, _ => rfl
theorem after_bill (e : EntD) (a : ActD) : (e.after a).bill = e.bill := by
  unfold EntD.after; repeat' split
  all_goals rfl
/-- An act that may be done leaves a good entry. -/
theorem after_good {k : Nat} {c : ByteArray} {e : EntD} {a : ActD} (h : EntG k c e) (hk : 1 ≤ a.kind ∧ a.kind ≤ 5) (hask : askE e a.ask = 0) (hto : a.to_.size ≤ maxLen) : EntG (k + 1) c (e.after a) := by
  obtain ⟨h1, h2, h3, h4, h5⟩ := ask_ok hask
  have hst : ∀ q ∈ e.ps, q.state = 0 ∨ q.state = 3 := by
    rcases h.st with h' | h' | h'
    · exact h'.2
    · rw [h2] at h'; cases h'.1
    · rw [h2] at h'; cases h'.1
  have one : ixs (oneI a.index) ≠ [] → ∃ k : Nat, k < 3 ∧ ixs a.index = [k] := fun h => by obtain ⟨k, h3, _, h2⟩ := ixs_one h; exact ⟨k, h3, h2⟩
  have hks : a.kind = 1 ∨ a.kind = 2 ∨ a.kind = 3 ∨ a.kind = 4 ∨ a.kind = 5 := by omega
  rcases hks with hk | hk | hk | hk | hk
  · have ea : e.after a = { e with ps := onIx (ixs a.index) (endorseP a.by_ a.to_ a.day) e.ps } := by simp [EntD.after, hk]
    have eask : a.ask = ⟨a.bill, a.by_, a.index, 0, true, a.day, a.to_, true⟩ := by simp [ActD.ask, hk]
    rw [eask] at h1 h3 h4 h5
    obtain ⟨h6, h7⟩ := h5 rfl
    obtain ⟨h8, h9⟩ := h4 rfl
    rw [ea]
    have key : ∀ q' ∈ onIx (ixs a.index) (endorseP a.by_ a.to_ a.day) e.ps, PapInv q' ∧ q'.chain.length ≤ k + 1 ∧ (q'.state = 0 ∨ q'.state = 3) := by
      intro q' hq'
      obtain ⟨i, q, hi, rfl⟩ := onIx_mem hq'
      have hq := List.mem_of_getElem? hi
      split
      · next hc =>
        have hc : i ∈ ixs a.index := by simpa using hc
        have ep := papAt_of hi
        have h3' := h3 i hc
        have h9' := h9 i hc
        rw [ep] at h3' h9'
        refine ⟨(endorse_inv (h.pap q hq) h3'.2.symm h6 h7 h8 h9' hto).1, ?_, hst q hq⟩
        have := h.chain q hq
        simp [endorseP]; exact this
      · exact ⟨h.pap q hq, Nat.le_succ_of_le (h.chain q hq), hst q hq⟩
    exact ⟨by rw [← h.three]; exact onIx_len _ _ _, fun q hq => (key q hq).1, fun q hq => (key q hq).2.1, h.may, h.ok, .inl ⟨h2, fun q hq => (key q hq).2.2⟩⟩
  · have eask : a.ask.index = oneI a.index := by simp [ActD.ask, hk]
    rw [eask] at h1
    obtain ⟨j, hj, ej⟩ := one h1
    have ea : e.after a = { e with state := 1, ps := onIx [j] (stateP 1) (e.ps.map (stateP 2)) } := by simp [EntD.after, hk, ej]
    rw [ea]
    have key : ∀ q' ∈ onIx [j] (stateP 1) (e.ps.map (stateP 2)), PapInv q' ∧ q'.chain.length ≤ k ∧ (q'.state = 1 ∨ q'.state = 2) := by
      intro q' hq'
      obtain ⟨i, q, hi, rfl⟩ := onIx_mem hq'
      rw [List.getElem?_map] at hi
      obtain ⟨q0, hq0, rfl⟩ := Option.map_eq_some_iff.1 hi
      have hq := List.mem_of_getElem? hq0
      split
      · exact ⟨((h.pap q0 hq).state 2).state 1, h.chain q0 hq, .inl rfl⟩
      · exact ⟨(h.pap q0 hq).state 2, h.chain q0 hq, .inr rfl⟩
    exact ⟨by rw [← h.three]; rw [onIx_len, List.length_map], fun q hq => (key q hq).1, fun q hq => Nat.le_succ_of_le (key q hq).2.1, h.may, h.ok, .inr (.inl ⟨rfl, fil_one h.three hj, fun q hq => (key q hq).2.2⟩)⟩
  · have ea : e.after a = { e with ps := onIx (ixs a.index) (stateP 3) e.ps } := by simp [EntD.after, hk]
    rw [ea]
    have key : ∀ q' ∈ onIx (ixs a.index) (stateP 3) e.ps, PapInv q' ∧ q'.chain.length ≤ k ∧ (q'.state = 0 ∨ q'.state = 3) := by
      intro q' hq'
      obtain ⟨i, q, hi, rfl⟩ := onIx_mem hq'
      have hq := List.mem_of_getElem? hi
      split
      · exact ⟨(h.pap q hq).state 3, h.chain q hq, .inr rfl⟩
      · exact ⟨h.pap q hq, h.chain q hq, hst q hq⟩
    exact ⟨by rw [← h.three]; exact onIx_len _ _ _, fun q hq => (key q hq).1, fun q hq => Nat.le_succ_of_le (key q hq).2.1, h.may, h.ok, .inl ⟨h2, fun q hq => (key q hq).2.2⟩⟩
  · have ea : e.after a = { e with ps := onIx (ixs a.index) (stateP 0) e.ps } := by simp [EntD.after, hk]
    rw [ea]
    have key : ∀ q' ∈ onIx (ixs a.index) (stateP 0) e.ps, PapInv q' ∧ q'.chain.length ≤ k ∧ (q'.state = 0 ∨ q'.state = 3) := by
      intro q' hq'
      obtain ⟨i, q, hi, rfl⟩ := onIx_mem hq'
      have hq := List.mem_of_getElem? hi
      split
      · exact ⟨(h.pap q hq).state 0, h.chain q hq, .inl rfl⟩
      · exact ⟨h.pap q hq, h.chain q hq, hst q hq⟩
    exact ⟨by rw [← h.three]; exact onIx_len _ _ _, fun q hq => (key q hq).1, fun q hq => Nat.le_succ_of_le (key q hq).2.1, h.may, h.ok, .inl ⟨h2, fun q hq => (key q hq).2.2⟩⟩
  · have ea : e.after a = { e with state := 4, ps := e.ps.map (stateP 2) } := by simp [EntD.after, hk]
    rw [ea]
    refine ⟨by rw [← h.three]; exact List.length_map _, fun q hq => ?_, fun q hq => ?_, h.may, h.ok, .inr (.inr ⟨rfl, fun q hq => ?_⟩)⟩ <;> obtain ⟨q0, hq0, rfl⟩ := List.mem_map.1 hq
    · exact (h.pap q0 hq0).state 2
    · exact Nat.le_succ_of_le (h.chain q0 hq0)
    · rfl
theorem at_some {r : RegD} {n : ByteArray} {x : EntD} (h : r.at? n = some x) : n = x.bill.number ∧ ∃ i : Nat, r.l[i]? = some x := by
  have h1 := List.find?_some h
  exact ⟨of_decide_eq_true h1, List.getElem?_of_mem (List.mem_of_find?_eq_some h)⟩
theorem ask_bill {a : ActD} (hk : 1 ≤ a.kind ∧ a.kind ≤ 5) : a.ask.bill = a.bill := by
  have hks : a.kind = 1 ∨ a.kind = 2 ∨ a.kind = 3 ∨ a.kind = 4 ∨ a.kind = 5 := by omega
  rcases hks with h | h | h | h | h <;> simp [ActD.ask, h]
theorem askC_ok {r : RegD} {a : ActD} (hk : 1 ≤ a.kind ∧ a.kind ≤ 5) (h : askC r a.ask = 0) : ∃ (x : EntD) (i : Nat), r.at? a.bill = some x ∧ r.l[i]? = some x ∧ a.bill = x.bill.number ∧ askE x a.ask = 0 := by
  unfold askC at h
  rw [ask_bill hk] at h
  cases hat : r.at? a.bill with
  | none => rw [hat] at h; cases h
  | some x =>
    rw [hat] at h
    obtain ⟨h1, i, h2⟩ := at_some hat
    exact ⟨x, i, rfl, h2, h1, h⟩
theorem good_issue {k : Nat} {r : RegD} {b : BillD} {holder : ByteArray} (h : Good k r) (hb : b.Ok) (hh : holder.size ≤ maxLen) : Good (k + 1) (issueD r b holder) := by
  unfold issueD
  by_cases hc : issueC r b holder = 0
  · rw [if_pos hc]
    unfold issueC at hc
    split at hc
    · cases hc
    next h1 =>
    split at hc
    · cases hc
    next h2 =>
    split at hc
    · cases hc
    next h3 =>
    simp only [Bool.or_eq_true, Bool.not_eq_true', not_or, Bool.not_eq_false] at h1
    obtain ⟨hm, hn⟩ := h1
    have hnone : r.at? b.number = none := by cases hat : r.at? b.number with
      | none => rfl
      | some x => rw [hat] at h2; simp at h2
    have hnum := at_none hnone
    have hbx : ∀ x ∈ b.boxes, ∀ e ∈ r.l, e.state = 0 → x ∉ e.bill.boxes := by
      intro x hx e he hs hmem
      refine h3 (List.any_eq_true.2 ⟨x, hx, ?_⟩)
      refine List.any_eq_true.2 ⟨e, he, ?_⟩
      simp only [EntD.has, hs, decide_true, Bool.true_and]
      exact List.any_eq_true.2 ⟨x, hmem, by simp⟩
    have hP : PapInv ⟨0, holder, []⟩ := ⟨hn, hh, fun x hx => by simp at hx, rfl, hn, hh⟩
    have get : ∀ (i : Nat) (x : EntD), (r.l ++ [newEnt b holder])[i]? = some x → (r.l[i]? = some x ∧ i < r.l.length) ∨ (i = r.l.length ∧ x = newEnt b holder) := by
      intro i x hx
      rw [List.getElem?_append] at hx
      split at hx
      · next hlt => exact .inl ⟨hx, hlt⟩
      · next hlt =>
        right
        have : i - r.l.length = 0 := by
          have := (List.getElem?_eq_some_iff.1 hx).1
          simp at this; omega
        rw [this] at hx
        simp at hx
        exact ⟨by omega, hx.symm⟩
    refine ⟨?_, by simp; exact h.len, ?_, ?_⟩
    · intro i j x y hx hy he
      rcases get i x hx with ⟨hx, hi⟩ | ⟨hi, rfl⟩ <;> rcases get j y hy with ⟨hy, hj⟩ | ⟨hj, rfl⟩
      · exact h.nd i j x y hx hy he
      · exact absurd he.symm (hnum x (List.mem_of_getElem? hx))
      · exact absurd he (hnum y (List.mem_of_getElem? hy))
      · omega
    · intro e he
      rcases List.mem_append.1 he with he | he
      · exact (h.ent e he).mono (Nat.le_succ _)
      · simp at he
        subst he
        have h3 : ∀ q ∈ (newEnt b holder).ps, q = ⟨0, holder, []⟩ := by intro q hq; simpa [newEnt] using hq
        exact ⟨rfl, fun q hq => by rw [h3 q hq]; exact hP, fun q hq => by rw [h3 q hq]; simp, hm, hb, .inl ⟨rfl, fun q hq => by rw [h3 q hq]; exact .inl rfl⟩⟩
    · intro i j x y z hx hy hsx hsy hzx hzy
      rcases get i x hx with ⟨hx, hi⟩ | ⟨hi, rfl⟩ <;> rcases get j y hy with ⟨hy, hj⟩ | ⟨hj, rfl⟩
      · exact h.box i j x y z hx hy hsx hsy hzx hzy
      · exact absurd hzx (hbx z hzy x (List.mem_of_getElem? hx) hsx)
      · exact absurd hzy (hbx z hzx y (List.mem_of_getElem? hy) hsy)
      · omega
  · rw [if_neg hc]; exact h.mono (Nat.le_succ _)
theorem good_do {k : Nat} {r : RegD} {a : ActD} (h : Good k r) (hk : 0 ≤ a.kind ∧ a.kind ≤ 5) (hb : a.b.Ok) (hto : a.to_.size ≤ maxLen) : Good (k + 1) (doA r a) := by
  unfold doA
  by_cases h0 : a.kind = 0
  · rw [if_pos h0]; exact good_issue h hb hto
  · rw [if_neg h0]
    have hk1 : 1 ≤ a.kind ∧ a.kind ≤ 5 := by omega
    by_cases hc : askC r a.ask = 0
    · rw [if_pos hc]
      obtain ⟨x, i, hat, hx, hn, hask⟩ := askC_ok hk1 hc
      have e := upd_set' hx hn h.nd (·.after a)
      have hil := (List.getElem?_eq_some_iff.1 hx).1
      have hst : x.state = 0 := (ask_ok hask).2.1
      have ec : (r.upd a.bill (·.after a)).carrier = r.carrier := rfl
      have get : ∀ (j : Nat) (y : EntD), (r.upd a.bill (·.after a)).l[j]? = some y → ∃ y0, r.l[j]? = some y0 ∧ y.bill = y0.bill ∧ (y.state = 0 → y0.state = 0) := by
        intro j y hy
        rw [e, List.getElem?_set] at hy
        by_cases hij : i = j
        · subst hij
          simp only [if_true, hil] at hy
          cases hy
          exact ⟨x, hx, after_bill _ _, fun _ => hst⟩
        · rw [if_neg hij] at hy
          exact ⟨y, hy, rfl, fun h => h⟩
      refine ⟨?_, ?_, ?_, ?_⟩
      · intro j j' y y' hy hy' he
        obtain ⟨z, hz, ez, _⟩ := get j y hy
        obtain ⟨z', hz', ez', _⟩ := get j' y' hy'
        exact h.nd j j' z z' hz hz' (by rw [← ez, ← ez']; exact he)
      · rw [e, List.length_set]; exact Nat.le_succ_of_le h.len
      · intro y hy
        rw [ec]
        rw [e] at hy
        rcases List.mem_or_eq_of_mem_set hy with hy | rfl
        · exact (h.ent y hy).mono (Nat.le_succ _)
        · exact after_good (h.ent x (List.mem_of_getElem? hx)) hk1 hask hto
      · intro j j' y y' z hy hy' hs hs' hz hz'
        obtain ⟨u, hu, eu, su⟩ := get j y hy
        obtain ⟨u', hu', eu', su'⟩ := get j' y' hy'
        exact h.box j j' u u' z hu hu' (su hs) (su' hs') (by rw [← eu]; exact hz) (by rw [← eu']; exact hz')
    · rw [if_neg hc]; exact h.mono (Nat.le_succ _)

theorem at_upd {r : RegD} {n n' : ByteArray} {f : EntD → EntD} (hf : ∀ e, (f e).bill = e.bill) : (r.upd n f).at? n' = (r.at? n').map fun e => if n = e.bill.number then f e else e := by
  unfold RegD.at? RegD.upd
  rw [List.find?_map]
  congr 2
  funext e
  simp only [Function.comp]
  split
  · rw [hf]
  · rfl
/-- Behind an act that was done the bill stands, and is the same bill. -/
theorem at_do {r : RegD} {a : ActD} (hk : 1 ≤ a.kind ∧ a.kind ≤ 5) (hc : askC r a.ask = 0) : ∃ x, r.at? a.bill = some x ∧ (doA r a).at? a.bill = some (x.after a) := by
  obtain ⟨x, i, hat, hx, hn, hask⟩ := askC_ok hk hc
  refine ⟨x, hat, ?_⟩
  unfold doA
  rw [if_neg (by omega), if_pos hc, at_upd (fun e => after_bill e a), hat, Option.map_some, if_pos hn]
theorem do_carrier (r : RegD) (a : ActD) : (doA r a).carrier = r.carrier := by
  unfold doA issueD
  repeat' split
  all_goals rfl
end Go.Proofs.YtfbjpfgglgffgaaGreat
