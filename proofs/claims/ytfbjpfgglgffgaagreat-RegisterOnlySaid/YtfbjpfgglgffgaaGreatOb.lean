/- How long an argument of acts is. -/
import Derived.Test.YtfbjpfgglgffgaaGreatOa
import Derived.SizedLaws
set_option linter.unusedVariables false
set_option linter.unusedSimpArgs false
set_option linter.unusedSectionVars false
set_option linter.unnecessarySimpa false
namespace Go.Proofs.YtfbjpfgglgffgaaGreat
open Go Go.SK Go.ChangeShapes Go.WideShapes
section
variable {H : Type} {enc : TypeId × Value → H} {w : World} {base : Nat} {spare : Nat → Bool} {held : Bool}
theorem acts_reach {fuel : Nat} {v : Value} {d : DataW H} {p : List MemPlace} (h : DataW.trod enc Tryz.prog w base spare held fuel 22 [v] = some (d, p)) :
    (∀ n c, v = .slice none n c → c = 0) ∧ ∀ a n c, v = .slice a n c → n = 0 ∨ ∃ e s, d = .slice e s ∧ e.length = n := by
  rcases Go.Deep.open_slice (e := 44) (by kernel_rfl) h with ⟨h1, h2⟩ | ⟨a, len, cap, m, n, D, Pl, h1, _, hl, hm, hmm, h2, hx⟩
  · simp only [List.cons.injEq, and_true] at h1
    subst h1
    exact ⟨fun n c e => by cases e; rfl, fun a n c e => by cases e; exact .inl rfl⟩
  · simp only [List.cons.injEq, and_true] at h1
    subst h1
    simp only [Prod.mk.injEq] at h2
    obtain ⟨rfl, _⟩ := h2
    exact ⟨fun n c e => (by cases e), fun a' n' c e => by cases e; exact .inr ⟨_, _, rfl, by simp⟩⟩
end
end Go.Proofs.YtfbjpfgglgffgaaGreat
