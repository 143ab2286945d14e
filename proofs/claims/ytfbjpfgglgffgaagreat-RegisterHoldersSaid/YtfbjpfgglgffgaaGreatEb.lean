/- Contracts of package endorse, second part: follow, Check, Holder. -/
import Derived.Test.YtfbjpfgglgffgaaGreatEa
set_option linter.unusedVariables false
set_option linter.unusedSimpArgs false
set_option linter.unusedSectionVars false
set_option linter.unnecessarySimpa false
namespace Go.Proofs.YtfbjpfgglgffgaaGreat
open Go Go.SK

theorem goC_step {c : ChD} {l : List EndD} {i : Nat} (hi : i < l.length) : goC c i (l.drop i) = if wrongC c l[i] ≠ 0 then (zeroC, i, wrongC c l[i]) else goC (onC l[i]) (i + 1) (l.drop (i + 1)) := by
  rw [List.drop_eq_getElem_cons hi]; rfl
def follV (x : ChD × Nat × Int) : Value := .tuple #[.agg ⟨encC x.1⟩, .int .i64 (x.2.1 : Nat), .int .i64 x.2.2]
theorem end_follow {A : Nat → Prop} {v : Value} {l : List EndD} (first : ByteArray) (w : World) (hS : SlE A w v l) (hf : first.size ≤ maxLen) (hl : ∀ x ∈ l, x.Ok) : Ret Tryz.prog 47 [.string first, v] w fun u w' => u = follV (followC first l) ∧ Ex w w' := by
  have hm := hS.small
  obtain ⟨a, cap, rfl, hz, hr⟩ := hS.is
  simp only [List.length_map] at *
  unfold maxLen at hm
  refine ret_of Tryz.func47 Tryz.ntmps47 rfl rfl rfl ?_
  (repeat (first | refine cw_seq ?_ | refine cw_region ?_))
  refine lw_alloc z106 ?_
  intro b4 w0 hbb4 hb40 hx0 hs0
  replace hb40 : Blk w0 b4 (encC zeroC) 106 := hb40
  (repeat (first | refine lw_pure hT rfl ?_ | refine lw_nil ?_ | refine qw_then ?_))
  refine cw_scope (α := Nat × ChD × Nat) 0 (fun s => [(1, .slice a l.length cap), (4, .pointer (some ⟨b4, 0, none⟩)), (7, .pointer (some ⟨s.2.2, 0, none⟩)), (8, .int .i64 (s.1 : Nat))])
    (fun s w' => nameB first = true ∧ Ex w w' ∧ Blk w' s.2.2 (encC s.2.1) 106 ∧ Blk w' b4 (encC zeroC) 106 ∧ w.heap.size < s.2.2 ∧ s.1 ≤ l.length ∧ goC s.2.1 s.1 (l.drop s.1) = goC ⟨first, false, false, 0⟩ 0 l) (fun s => l.length - s.1) rfl ?_ ?_
  · rintro ⟨i, c, b7⟩ w1 ⟨hn, hx1, hb7, hb4, hl7, hi, hgo⟩
    dsimp only at hb7 hb4 hl7 hi hgo
    have fl : followC first l = goC ⟨first, false, false, 0⟩ 0 l := by unfold followC; rw [if_pos hn]
    have hl1 := hx1.size
    (repeat (first | refine lw_pure hT rfl ?_ | refine lw_nil ?_ | refine cw_seq ?_ | refine cw_region ?_ | refine qw_then ?_))
    refine cw_cond rfl (fun h => ?_) (fun h => ?_)
    · have : i = l.length := by simp at h; omega
      subst this
      (repeat (first | refine cw_seq ?_ | refine cw_region ?_))
      refine lw_load_agg hT rfl rfl rfl (vs := encC c) (hb7.rd 0 4) ?_
      (repeat (refine lw_pure hT rfl ?_))
      refine lw_store_agg hT rfl rfl rfl rfl (by intro v hv; simp [encC] at hv; rcases hv with rfl | rfl | rfl | rfl <;> rfl) hb4 (show (4 : Nat) ≤ 4 by decide) ?_
      intro w2 hb4' hx2 hs2
      (repeat (first | refine lw_pure hT rfl ?_ | refine lw_nil ?_ | refine qw_then ?_ | refine cw_ret ?_ | refine qw_then_ret ?_))
      refine qw_jump_ret ?_
      refine qw_ret_cell hT rfl rfl rfl rfl (vs := encC c) (hb4'.rd 0 4) rfl ⟨?_, hx1.up_new hx2 (fun i hi => by omega)⟩
      rw [fl, ← hgo, List.drop_length]; rfl
    · have hlt : i < l.length := by simp at h; omega
      have hx := hl _ (List.getElem_mem hlt)
      have hgo' := hgo
      rw [goC_step hlt] at hgo'
      have hne' : l.map encE ≠ [] := by intro e; simp at e; subst e; simp at hlt
      obtain ⟨b, o, rfl, hA, hrd⟩ := hr hne'
      obtain ⟨hlen, hrd⟩ := hrd i (encE l[i]) (by simp [hlt])
      (repeat (first | refine cw_seq ?_ | refine qw_then ?_ | refine cw_skip ?_))
      refine cw_draw hM (fun w' => Ex w1 w') [] rfl rfl (by repeat (first | exact nop_body | refine nop_then ?_ | refine nop_block ?_ | refine nop_jump ?_)) (fun w2 hx2 _ => ⟨hx2, ?_⟩)
      refine rw_take 0 rfl rfl (by kernel_rfl) (by kernel_rfl) (by kernel_rfl) (by kernel_rfl) rfl (yo_load_agg hT rfl rfl rfl (vs := encC c) (fun w' hS => (hb7.ex hS).rd 0 4)) ?_
      (refine rw_takeP 1 rfl rfl (by kernel_rfl) (by kernel_rfl) (by kernel_rfl) (by kernel_rfl) rfl (yo_pure hT rfl) ?_; refine rw_takeP 2 rfl rfl (by kernel_rfl) (by kernel_rfl) (by kernel_rfl) (by kernel_rfl) rfl (yo_pure hT rfl) ?_)
      refine rw_takeP 3 rfl rfl (by kernel_rfl) (by kernel_rfl) (by kernel_rfl) (by kernel_rfl) rfl (yo_index hT rfl rfl rfl i rfl hlt) ?_
      refine rw_take 4 rfl rfl (by kernel_rfl) (by kernel_rfl) (by kernel_rfl) (by kernel_rfl) rfl (yo_load_agg hT rfl rfl rfl (vs := encE l[i]) (fun w' hS => (hrd.ex hx1).ex hS)) ?_
      refine rw_one 5 rfl (by kernel_rfl) rfl (fun hcl => ?_)
      skip
      refine lw_call hT rfl rfl (end_wrong c l[i] w2 hx) ?_
      rintro _ w3 ⟨rfl, hx3⟩
      have hx13 := hx2.trans hx3
      (repeat (refine lw_nil ?_))
      refine qw_rw (by repeat (first | exact nop_body | refine nop_then ?_ | refine nop_block ?_ | refine nop_jump ?_)) hcl (fun _ => hx13) ?_
      (refine rw_takeP 6 rfl rfl (by kernel_rfl) (by kernel_rfl) (by kernel_rfl) (by kernel_rfl) rfl (yo_pure hT rfl) ?_)
      refine rw_done (by kernel_rfl) ?_
      (repeat (first | refine lw_pure hT rfl ?_ | refine lw_nil ?_ | refine cw_seq ?_ | refine cw_region ?_ | refine qw_then ?_))
      refine cw_cond rfl (fun h' => ?_) (fun h' => ?_)
      · have h' : wrongC c l[i] ≠ 0 := by simpa using h'
        (repeat (first | refine cw_seq ?_ | refine cw_region ?_))
        refine lw_build bt106 rfl ?_
        (repeat (refine lw_pure hT rfl ?_))
        refine lw_store_agg hT rfl rfl rfl rfl (by intro v hv; simp at hv; rcases hv with rfl | rfl | rfl <;> rfl) (hb4.ex hx13) (show (4 : Nat) ≤ 4 by decide) ?_
        intro w4 hb4' hx4 hs4
        (repeat (first | refine lw_pure hT rfl ?_ | refine lw_nil ?_ | refine qw_then ?_ | refine cw_ret ?_ | refine qw_then_ret ?_))
        refine qw_jump_ret ?_
        refine qw_ret_cell hT rfl rfl rfl rfl (vs := encC zeroC) (hb4'.rd 0 4) rfl ⟨?_, (hx1.trans hx13).up_new hx4 (fun i hi => by omega)⟩
        rw [fl, ← hgo', if_pos h']; rfl
      · have h' : wrongC c l[i] = 0 := by simpa using h'
        rw [if_neg (by simpa using h')] at hgo'
        (repeat (first | refine lw_pure hT rfl ?_ | refine cw_seq ?_ | refine cw_region ?_ | refine qw_then ?_ | refine cw_skip ?_))
        refine lw_index hT rfl rfl rfl i rfl hlt ?_
        skip
        refine lw_load_agg hT rfl rfl rfl (vs := encE l[i]) ((hrd.ex hx1).ex hx13) ?_
        skip
        refine lw_call hT rfl rfl (end_on l[i] w3) ?_
        rintro _ w4 ⟨rfl, hx4⟩
        have hx14 := hx13.trans hx4
        skip
        refine lw_store_agg hT rfl rfl rfl rfl (by intro v hv; simp [encC] at hv; rcases hv with rfl | rfl | rfl | rfl <;> rfl) (hb7.ex hx14) (show (4 : Nat) ≤ 4 by decide) ?_
        intro w5 hb5 hx5 hs5
        (repeat (first | (refine lw_add rfl rfl ?_ ?_ ?_; iterate 2 omega) | refine lw_pure hT rfl ?_ | refine lw_nil ?_ | refine cw_seq ?_ | refine cw_region ?_ | refine qw_then ?_))
        refine cw_goto ?_
        refine qw_jump_go (i + 1, onC l[i], b7) (by repeat (first | exact trivial | refine ⟨rfl, ?_⟩)) ⟨hn, (hx1.trans hx14).up_new hx5 (fun i hi => by have : i = b7 := hi; omega), hb5, (hb4.ex hx14).ext hx5 (by show b4 ≠ b7; omega), hl7, hlt, hgo'⟩ (by simp; omega)
  · intro go
    (repeat (first | refine lw_pure hT rfl ?_ | refine cw_seq ?_ | refine cw_region ?_))
    refine lw_build bt106 rfl ?_
    skip
    refine lw_alloc z106 ?_
    intro b7 w1 hbb7 hb7 hx1 hs1
    skip
    refine lw_store_agg hT rfl rfl rfl rfl (by intro v hv; simp at hv; rcases hv with rfl | rfl | rfl <;> rfl) hb7 (show (4 : Nat) ≤ 4 by decide) ?_
    intro w2 hb7' hx2 hs2
    replace hb7' : Blk w2 b7 (encC ⟨first, false, false, 0⟩) 106 := hb7'
    (repeat (first | refine lw_pure hT rfl ?_ | refine lw_nil ?_ | refine cw_seq ?_ | refine cw_region ?_ | refine qw_then ?_))
    have hx02 : Ex w w2 := (hx0.trans hx1).up_new hx2 (fun i hi => by omega)
    refine lw_call hT rfl rfl (mark_Name first w2 hf) ?_
    rintro _ _ ⟨rfl, rfl⟩
    have hb4 := (hb40.ex hx1).ext hx2 (by omega)
    (repeat (first | refine lw_pure hT rfl ?_ | refine lw_nil ?_ | refine qw_then ?_))
    refine cw_cond rfl (fun h => ?_) (fun h => ?_)
    · rw [Bool.not_eq_true'] at h
      (repeat (first | refine cw_seq ?_ | refine cw_region ?_))
      refine lw_build bt106 rfl ?_
      skip
      refine lw_store_agg hT rfl rfl rfl rfl (by intro v hv; simp at hv; rcases hv with rfl | rfl | rfl <;> rfl) hb4 (show (4 : Nat) ≤ 4 by decide) ?_
      intro w4 hb4' hx4 hs4
      (repeat (first | refine lw_pure hT rfl ?_ | refine lw_nil ?_ | refine qw_then ?_ | refine cw_ret ?_ | refine qw_then_ret ?_))
      refine qw_jump_ret ?_
      refine qw_ret_cell hT rfl rfl rfl rfl (vs := encC zeroC) (hb4'.rd 0 4) rfl ⟨?_, hx02.up_new hx4 (fun i hi => by omega)⟩
      unfold followC; rw [h]; rfl
    · rw [Bool.not_eq_false'] at h
      (repeat (first | refine cw_seq ?_ | refine qw_then ?_ | refine cw_skip ?_))
      refine cw_label ?_
      refine qw_then ?_
      exact go (0, ⟨first, false, false, 0⟩, b7) _ _ (by repeat (first | exact trivial | refine ⟨rfl, ?_⟩)) ⟨h, hx02, hb7', hb4, by simp; omega, Nat.zero_le _, rfl⟩
theorem end_Check {A : Nat → Prop} {v : Value} {l : List EndD} (first : ByteArray) (w : World) (hS : SlE A w v l) (hf : first.size ≤ maxLen) (hl : ∀ x ∈ l, x.Ok) : Ret Tryz.prog 21 [.string first, v] w fun u w' =>
    u = .tuple #[.string (followC first l).1.holder, .int .i64 ((followC first l).2.1 : Nat), .int .i64 (followC first l).2.2] ∧ Ex w w' := by
  refine ret_of Tryz.func21 Tryz.ntmps21 rfl rfl rfl ?_
  (repeat (first | refine lw_pure hT rfl ?_ | refine lw_nil ?_ | refine cw_seq ?_ | refine cw_region ?_ | refine qw_then ?_))
  refine lw_call hT rfl rfl (end_follow first w hS hf hl) ?_
  rintro _ w1 ⟨rfl, hx1⟩
  unfold follV
  (repeat (refine lw_pure hT rfl ?_))
  refine lw_alloc z106 ?_
  intro b w2 hbb hb hx2 hs2
  skip
  refine lw_store_agg hT rfl rfl rfl rfl (by intro v hv; simp [encC] at hv; rcases hv with rfl | rfl | rfl | rfl <;> rfl) hb (show (4 : Nat) ≤ 4 by decide) ?_
  intro w3 hb3 hx3 hs3
  have hl1 := hx1.size
  (repeat (first | refine lw_pure hT rfl ?_ | refine lw_nil ?_ | refine cw_seq ?_ | refine cw_region ?_ | refine qw_then ?_))
  refine lw_load hT rfl rfl (v := .string (followC first l).1.holder) (hb3.cell 0) ?_
  (repeat (first | refine lw_pure hT rfl ?_ | refine lw_nil ?_ | refine qw_then ?_ | refine cw_ret ?_))
  exact qw_ret rfl ⟨rfl, (hx1.trans hx2).up_new hx3 (fun i hi => by omega)⟩
theorem end_Holder {A : Nat → Prop} {v : Value} {l : List EndD} (first : ByteArray) (w : World) (hS : SlE A w v l) (hf : first.size ≤ maxLen) (hl : ∀ x ∈ l, x.Ok) : Ret Tryz.prog 57 [.string first, v] w fun u w' => u = .string (followC first l).1.holder ∧ Ex w w' := by
  refine ret_of Tryz.func57 Tryz.ntmps57 rfl rfl rfl ?_
  (repeat (first | refine lw_pure hT rfl ?_ | refine lw_nil ?_ | refine cw_seq ?_ | refine cw_region ?_ | refine qw_then ?_))
  refine lw_call hT rfl rfl (end_Check first w hS hf hl) ?_
  rintro _ w1 ⟨rfl, hx1⟩
  (repeat (first | refine lw_pure hT rfl ?_ | refine lw_nil ?_ | refine cw_seq ?_ | refine cw_region ?_ | refine qw_then ?_ | refine cw_ret ?_))
  exact qw_ret rfl ⟨rfl, hx1⟩
end Go.Proofs.YtfbjpfgglgffgaaGreat
