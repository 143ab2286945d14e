/- The row RegisterOnly, of what its walk says. -/
import Derived.Test.YtfbjpfgglgffgaaGreatRows
import Derived.Test.YtfbjpfgglgffgaaGreatPd
import Derived.Test.YtfbjpfgglgffgaaGreatOa
import Derived.Test.YtfbjpfgglgffgaaGreatOb
import Derived.WalkKit
import Derived.ProofKit
import Derived.OpenShut
import Derived.ShutString
import Derived.ChangeOld
import Derived.Below
import Derived.SizedLaws
namespace Go.Proofs.YtfbjpfgglgffgaaGreat.registerOnly
open Go Go.SK Go.ChangeShapes Go.WideShapes Go.ChangeAt Go.RowKit
open Go.ChangeMaps (open_string shut_string)
set_option linter.unusedVariables false
section
attribute [local semireducible] Go.SK.Ret
theorem of_ret {P : Program} {f : FuncId} {args : List Value} {w : World} {R : Value → World → Prop} (h : Ret P f args w R) : Calls P f ⟨args⟩ w fun e w' => ∃ v, e = .returned v ∧ R v w' := h
end
theorem own : ownKnob Tryz.prog.godebug = none := by kernel_rfl
theorem laidOut : laidOutB Tryz.prog = true := by kernel_rfl
set_option maxRecDepth 100000 in
theorem lifted (os : Os) (started : os.Started) (H : Type) (enc : TypeId × Value → H) :
    ReturnsInHanded {} Tryz.checked os 7 .any (Rows.registerOnlySpec.pre6 enc Tryz.prog Tryz.f7 Rows.registerOnlyRow.domain false) (Rows.registerOnlySpec.post enc Tryz.prog Tryz.f7 false true false false) := by
  refine returnsInHanded_of_change_sized (C := Tryz.checked) own started (by kernel_rfl) Tryz.func7
    (ChangeSpec.witness6 (enc := enc) (C := Tryz.checked) false ⟨#[], #[.slice none 0 0, .agg #[.int .i64 0, .int .i64 0, .int .i64 0, .string ByteArray.empty, .string ByteArray.empty, .string ByteArray.empty, .string ByteArray.empty, .string ByteArray.empty, .string ByteArray.empty, .string ByteArray.empty, .string ByteArray.empty, .slice none 0 0, .slice none 0 0, .int .i64 0, .bool false], .string ByteArray.empty], []⟩ 8 (by kernel_rfl) (by kernel_rfl) (by kernel_rfl) (by kernel_rfl)) ?_
  intro W base args ds gs before hval0 hW hcnd hsz0 _
  have hval : ∀ (j : Nat) t v, Tryz.f7.params[j]? = some t → args[j]? = some v → Value.okWide Tryz.prog W .any base t v := hval0
  have hW' := hW
  obtain ⟨p, q, hA0, hV, rfl, hfz, hnd⟩ := hW
  have hA : DataW.TrodAll enc Tryz.prog W 0 (fun _ => true) true Tryz.f7.params.toList args.toList ds p := hA0
  rw [Tryz.params7] at hA hval
  obtain ⟨v0, vs0, d0, ds0, p0, q0, hargs, rfl, rfl, h0, r0⟩ := trodAll_cons hA
  obtain ⟨v1, vs1, d1, ds1, p1, q1, rfl, rfl, rfl, h1, r1⟩ := trodAll_cons r0
  obtain ⟨v2, vs2, d2, ds2, p2, q2, rfl, rfl, rfl, h2, r2⟩ := trodAll_cons r1
  obtain ⟨rfl, rfl, rfl⟩ := trodAll_nil r2
  obtain rfl : args = #[v0, v1, v2] := by cases args; simp_all
  obtain ⟨rfl, rfl⟩ := trodVars_none hV
  obtain ⟨a0, len0, cap0, rfl⟩ := okWide_slice Tryz.underlying22 (hval 0 22 v0 rfl rfl)
  have k0 := h0
  have lt0 : ∀ x ∈ p0, x.block < W.heap.size := by obtain ⟨m, hm⟩ := k0; exact DataW.trod_lt m _ _ _ hm
  obtain ⟨l0, w0⟩ : ∃ l, ActsAt (fun _ => True) W (.slice a0 len0 cap0) l := by
    obtain ⟨fuel, hf⟩ := h0
    obtain ⟨v, l, hcs, hl⟩ := open_acts (fun _ => rfl) hf
    simp [Value.cells] at hcs
    subst hcs
    exact ⟨l, hl⟩
  obtain ⟨z0, y0⟩ := (by obtain ⟨fuel, hf⟩ := h0; exact acts_reach hf : (∀ n c, Value.slice a0 len0 cap0 = .slice none n c → c = 0) ∧ ∀ a n c, Value.slice a0 len0 cap0 = .slice a n c → n = 0 ∨ ∃ e s, d0 = .slice e s ∧ e.length = n)
  have b0 : l0.length * 216 ≤ 140737488351232 := by
    obtain ⟨_, _, e, _⟩ := w0.is
    rcases y0 _ _ _ e with e0 | ⟨es, sp, e1, e2⟩
    · rw [e0]; decide
    · have := sized_slice (P := Tryz.prog) hsz0 (j := 0) (t := 22) rfl (by rw [e1]; rfl) Tryz.underlying22
      rw [show Tryz.prog.bytesOf 44 = 216 from by kernel_rfl] at this
      unfold reachBytes at this
      have h9 := Nat.mul_le_mul_right 216 (Nat.le_add_right es.length sp.length)
      omega
  obtain ⟨c1, rfl, hc1⟩ := okWide_struct Tryz.underlying44 (hval 1 44 v1 rfl rfl)
  have k1 := h1
  have lt1 : ∀ x ∈ p1, x.block < W.heap.size := by obtain ⟨m, hm⟩ := k1; exact DataW.trod_lt m _ _ _ hm
  obtain ⟨a1, vb1, vp1, e1, w1⟩ : ∃ a vb vp, c1 = ⟨encAct a vb vp⟩ ∧ ActAt (fun _ => True) W a vb vp := by
    obtain ⟨fuel, hf⟩ := h1
    obtain ⟨a, vb, vp, hcs, hl⟩ := open_act (fun _ => rfl) hf
    exact ⟨a, vb, vp, by cases c1; simp [Value.cells] at hcs; subst hcs; rfl, hl⟩
  subst e1
  obtain ⟨a2, rfl, rfl, rfl, y2⟩ := open_string Tryz.underlying9 (hval 2 9 v2 rfl rfl) h2
  clear hA0 hval0 hsz0
  refine (of_ret (l23_Only w0 z0 b0 w1 a2 y2)).mono fun e W' ⟨v, he, hv, hx⟩ => ?_
  subst he hv
  have bel : Below W.heap.size W W' := Ext.below hx (Nat.le_refl _) (fun _ _ f => f)
  exact ⟨_, rfl, _, _, _, [], _, [], hW', trodAll_mk1 (shut_bool Tryz.underlying4 _), (trodAll_cons_mk (Below.trod laidOut (by kernel_rfl) (of_decide_eq_true (by kernel_rfl)) k0 bel lt0) (trodAll_cons_mk (Below.trod laidOut (by kernel_rfl) (of_decide_eq_true (by kernel_rfl)) k1 bel lt1) (trodAll_cons_mk (shut_string Tryz.underlying9 y2) trodAll_mk0))), rfl, bel.frame _, fun h => by cases h⟩
theorem over : Rows.registerOnlyRow.holds Tryz.pinned (OpenSpec.ofChange Rows.registerOnlySpec) :=
  OpenClaim.holds_of_wide 7 Tryz.f7 rfl rfl rfl rfl rfl rfl rfl ⟨rfl, rfl, rfl, rfl, rfl⟩ rfl rfl rfl rfl rfl (by kernel_rfl) Tryz.func7 (by kernel_rfl)
    (of_decide_eq_true (by kernel_rfl)) (by unfold Func.isWrapper; first | (rw [if_pos (by decide +kernel)]; kernel_rfl) | (rw [if_neg (by decide +kernel)]; exact ⟨rfl, rfl⟩))
    (fun os started H enc _ => lifted os started H enc)
end Go.Proofs.YtfbjpfgglgffgaaGreat.registerOnly
namespace Go.Proofs.YtfbjpfgglgffgaaGreat
theorem registerOnly_holds : Rows.RegisterOnlySaid := registerOnly.over
#print axioms registerOnly_holds
end Go.Proofs.YtfbjpfgglgffgaaGreat

