/- Further laws of the walking kit: bools compared; and plain lemmas for the statements of layer 23. -/
import Derived.Test.YtfbjpfgglgffgaaGreatGe
set_option linter.unusedVariables false
set_option linter.unusedSimpArgs false
set_option linter.unusedSectionVars false
set_option linter.unnecessarySimpa false
namespace Go.SK
open Go
attribute [local semireducible] CW LW QW Ret Kn
section
variable {P : Program} {T : Tab} {n : Nat} {fr : Fr} {w : World} {Q : Exit → Act → World → Prop} {ops : Array Oper} {rest : List Oper}
theorem equalIn_bool (d : Nat) {t : Nat} {a b : Bool} (hu : P.underlying t = some .bool) : (Op.equalIn (d + 1) t (.bool a) (.bool b)).run P w = .ok (a == b) w := by
  simp [Op.equalIn, run_underlying hu]
theorem lw_eq_bool {d t : Nat} {a b : Bool} {x y : Operand} {t' : TypeId} {ty : TypeId} {ps : String} {af : Array Edge} (hu : P.underlying t = some .bool) (hx : ev n fr x = some (.bool a)) (hy : ev n fr y = some (.bool b))
    (k : LW P ops Q rest n ((d, .bool (a == b)) :: fr) w) :
    LW P ops Q ({ dst := some d, op := .binOp .eql t x y t', type := ty, pos := ps, after := af, guard := none } :: rest) n fr w := by
  refine lw_run rfl rfl (fun a' hk => ?_) k
  have hq : (Op.equal t (.bool a) (.bool b)).run P w = .ok (a == b) w := equalIn_bool 9999 hu
  simp only [execOp, ev_sound hk hx, ev_sound hk hy]
  simp [eqGuard, binOp, hq]
theorem lw_neq_bool {d t : Nat} {a b : Bool} {x y : Operand} {t' : TypeId} {ty : TypeId} {ps : String} {af : Array Edge} (hu : P.underlying t = some .bool) (hx : ev n fr x = some (.bool a)) (hy : ev n fr y = some (.bool b))
    (k : LW P ops Q rest n ((d, .bool (!(a == b))) :: fr) w) :
    LW P ops Q ({ dst := some d, op := .binOp .neq t x y t', type := ty, pos := ps, after := af, guard := none } :: rest) n fr w := by
  refine lw_run rfl rfl (fun a' hk => ?_) k
  have hq : (Op.equal t (.bool a) (.bool b)).run P w = .ok (a == b) w := equalIn_bool 9999 hu
  simp only [execOp, ev_sound hk hx, ev_sound hk hy]
  simp [eqGuard, binOp, hq]
end
end Go.SK
namespace Go.Proofs.YtfbjpfgglgffgaaGreat
open Go Go.SK
/-- An act on a bill that is ended is refused, and changes nothing. -/
theorem act_ended {r : RegD} {a : ActD} {x : EntD} (hk : 1 ≤ a.kind ∧ a.kind ≤ 5) (hat : r.at? a.bill = some x) (hs : x.state ≠ 0) : actC r a ≠ 0 ∧ doA r a = r := by
  have h : askC r a.ask ≠ 0 := by
    unfold askC
    rw [ask_bill hk, hat]
    intro h
    exact hs (ask_ok h).2.1
  unfold actC doA
  rw [if_neg (by omega), if_neg (by omega), if_neg h]
  exact ⟨h, rfl⟩
theorem at_issue {r : RegD} {b : BillD} {h : ByteArray} {n : ByteArray} {x : EntD} (hat : r.at? n = some x) : (issueD r b h).at? n = some x := by
  unfold issueD
  split
  · unfold RegD.at? at hat ⊢
    rw [List.find?_append, hat]; rfl
  · exact hat
theorem state_of {r : RegD} {n : ByteArray} {x : EntD} (h : r.at? n = some x) : r.stateOf n = x.state := by unfold RegD.stateOf; rw [h]
theorem origs_of {r : RegD} {n : ByteArray} {x : EntD} (h : r.at? n = some x) : r.origsOf n = x.ps.zipIdx := by unfold RegD.origsOf; rw [h]
theorem Good.states {k : Nat} {r : RegD} (h : Good k r) (n : ByteArray) : (r.stateOf n = -1 ∨ r.stateOf n = 0) ∨ ∃ x, r.at? n = some x ∧ EntG k r.carrier x ∧ r.stateOf n = x.state ∧ ((x.state = 1 ∧ (x.ps.filter isDone).length = 1 ∧ ∀ q ∈ x.ps, q.state = 1 ∨ q.state = 2) ∨ (x.state = 4 ∧ ∀ q ∈ x.ps, q.state = 2)) := by
  unfold RegD.stateOf
  cases hat : r.at? n with
  | none => exact .inl (.inl rfl)
  | some x =>
    obtain ⟨_, i, hx⟩ := at_some hat
    have hE := h.ent x (List.mem_of_getElem? hx)
    rcases hE.st with h' | h' | h'
    · exact .inl (.inr h'.1)
    · exact .inr ⟨x, rfl, hE, rfl, .inl h'⟩
    · exact .inr ⟨x, rfl, hE, rfl, .inr h'⟩
/-- No box is told to stand in a bill that is ended. -/
theorem box_ended {r : RegD} {n z : ByteArray} {x : EntD} {v : Value} (hN : r.Nd) (hat : r.at? n = some x) (hs : x.state ≠ 0) (h : BoxR r z v) : v = .tuple #[.string ⟨#[]⟩, .bool false] ∨ ∃ u, u ≠ n ∧ v = .tuple #[.string u, .bool true] := by
  rcases h with ⟨h, _⟩ | ⟨e, he, hh, h⟩
  · exact .inl h
  · refine .inr ⟨_, fun e' => ?_, h⟩
    obtain ⟨hn, i, hi⟩ := at_some hat
    obtain ⟨j, hj⟩ := List.getElem?_of_mem he
    have := hN i j x e hi hj (hn ▸ e'.symm)
    subst this
    rw [hi] at hj; cases hj
    simp [EntD.has, hs] at hh
theorem fil_none {ps : List PapD} (h : ∀ q ∈ ps, q.state = 2) : (ps.filter isDone).length = 0 := by
  rw [List.length_eq_zero_iff, List.filter_eq_nil_iff]
  intro q hq
  simp [isDone, h q hq]
theorem fil_take {ps : List PapD} {i : Nat} {q : PapD} (h : ps[i]? = some q) : ((ps.take (i + 1)).filter isDone).length = ((ps.take i).filter isDone).length + if q.state = 1 then 1 else 0 := by
  obtain ⟨hi, rfl⟩ := List.getElem?_eq_some_iff.1 h
  rw [List.take_succ_eq_append_getElem hi, List.filter_append, List.length_append]
  congr 1
  by_cases e : ps[i].state = 1 <;> simp [isDone, e]
end Go.Proofs.YtfbjpfgglgffgaaGreat
