/- Originals that are told, row by row. -/
import Derived.Test.YtfbjpfgglgffgaaGreatGi
import Derived.Test.YtfbjpfgglgffgaaGreatGe
set_option linter.unusedVariables false
set_option linter.unusedSimpArgs false
set_option linter.unusedSectionVars false
set_option linter.unnecessarySimpa false
namespace Go.Proofs.YtfbjpfgglgffgaaGreat
open Go Go.SK

theorem origs_row {r : RegD} {n : ByteArray} {x : EntD} {w : World} {u : Value} {base : Nat} (h : r.at? n = some x) (h3 : x.ps.length = 3) (ho : w.ownsRow base 54 4 u (r.origsOf n).length ((r.origsOf n).map fun y => origRow n y.1 y.2).flatten) :
    ∃ g c, u = .slice (some ⟨g, 0, none⟩) 3 c ∧ base ≤ g ∧ ∀ i, i < 3 → Rd w g (0 + i * 4) (origRow n (papAt x i) i) := by
  have h3' : (r.origsOf n).length = 3 := (orig_at h h3 (i := 0) (by decide)).2
  obtain ⟨g, c, rfl⟩ := own_slice ho (by omega)
  rw [h3'] at ho ⊢
  have hsl : Sl (fun _ => True) w (.slice (some ⟨g, 0, none⟩) 3 c) 4 ((r.origsOf n).map fun y => origRow n y.1 y.2) := own_sl (by rw [List.length_map, h3']; exact ho) (by intro r hr; obtain ⟨y, _, rfl⟩ := List.mem_map.1 hr; rfl) (fun _ _ => trivial)
  refine ⟨g, c, rfl, (own_base ho rfl).1, fun i hi => ?_⟩
  obtain ⟨bb, oo, cc, hv, _, _, _, hrd⟩ := hsl.at (i := i) (row := origRow n (papAt x i) i) (by rw [List.getElem?_map, (orig_at h h3 hi).1]; rfl)
  simp only [Value.slice.injEq, Option.some.injEq, Addr.mk.injEq, and_true] at hv
  obtain ⟨⟨rfl, rfl⟩, _, _⟩ := hv
  exact hrd
theorem own_slice0 {w : World} {base e size n : Nat} {v : Value} {xs : List Value} (h : w.ownsRow base e size v n xs) : ∃ a cap, v = .slice a n cap := by
  rcases h.2 with ⟨rfl, h0⟩ | ⟨g, cap, cur, rfl, _⟩
  · subst h0; exact ⟨none, 0, rfl⟩
  · exact ⟨_, cap, rfl⟩
end Go.Proofs.YtfbjpfgglgffgaaGreat
