/- Contracts of package register, fourth part: a new one, bills of one's own, originals. -/
import Derived.Test.YtfbjpfgglgffgaaGreatRc
set_option linter.unusedVariables false
set_option linter.unusedSimpArgs false
set_option linter.unusedSectionVars false
set_option linter.unnecessarySimpa false
namespace Go.Proofs.YtfbjpfgglgffgaaGreat
open Go Go.SK

theorem reg_New (w : World) (c : ByteArray) : Ret Tryz.prog 16 [.string c] w fun v w' => ∃ p m, v = .pointer (some ⟨p, 0, none⟩) ∧ Rep w' p ⟨c, []⟩ m [] ∧ w.heap.size ≤ p ∧ w.heap.size ≤ m ∧ Ex w w' := by
  refine ret_of Tryz.func16 Tryz.ntmps16 rfl rfl rfl ?_
  (repeat (first | refine lw_pure hT rfl ?_ | refine lw_nil ?_ | refine cw_seq ?_ | refine cw_region ?_ | refine qw_then ?_))
  refine lw_makeMap ?_
  rintro m w1 rfl hM1 hx1 hs1
  skip
  refine lw_build bt81 rfl ?_
  skip
  refine lw_box rfl ?_
  rintro p w2 rfl hb2 hx2 hs2
  (repeat (first | refine lw_pure hT rfl ?_ | refine lw_nil ?_ | refine qw_then ?_ | refine cw_ret ?_))
  refine qw_ret rfl ⟨_, _, rfl, ⟨hb2, ⟨_, hM1.ex hx2, .refl _⟩, ?_, rfl, ?_, ?_, ?_, ?_, by omega⟩, by omega, by omega, hx1.trans hx2⟩ <;> (try unfold RegD.Nd) <;> intros <;> simp_all
theorem reg_own {A : Nat → Prop} {b : BillD} {vb vp : Value} (w : World) (hB : SlS A w vb b.boxes) (hP : SlS A w vp b.parents) (h1 : b.boxes.length ≤ 1000000) (h2 : b.parents.length ≤ 1000000) :
    Ret Tryz.prog 37 [.agg ⟨encB b vb vp⟩] w fun v w' => ∃ ub up, v = .agg ⟨encB b ub up⟩ ∧ w'.ownsRow w.heap.size 9 1 ub b.boxes.length (b.boxes.map Value.string) ∧
      w'.ownsRow w.heap.size 9 1 up b.parents.length (b.parents.map Value.string) ∧ Ex w w' := by
  refine ret_of Tryz.func37 Tryz.ntmps37 rfl rfl rfl ?_
  (repeat (first | refine cw_seq ?_ | refine cw_region ?_))
  refine lw_box rfl ?_
  intro bb w1 hbb hb1 hx1 hs1
  replace hb1 : Blk w1 bb (encB b vb vp) 35 := hb1
  skip
  refine lw_alloc z35 ?_
  intro bc w2 hbc hb2 hx2 hs2
  have hb12 := hb1.ex hx2
  (repeat (first | refine lw_nil ?_ | refine cw_seq ?_ | refine qw_then ?_))
  refine cw_draw hM (fun w' => Ex w2 w') [7, 9] rfl rfl (by repeat (first | with_reducible refine nop_then ?_ | with_reducible refine nop_block ?_ | with_reducible exact nop_body)) (fun w3 hx3 _ => ⟨hx3, ?_⟩)
  (refine rw_takeP 0 rfl rfl (by kernel_rfl) (by kernel_rfl) (by kernel_rfl) (by kernel_rfl) rfl (yo_pure hT rfl) ?_)
  refine rw_take 1 rfl rfl (by kernel_rfl) (by kernel_rfl) (by kernel_rfl) (by kernel_rfl) rfl (yo_load hT rfl rfl (fun w' hS => Ex.cell hS (hb12.cell 5))) ?_
  (refine rw_takeP 3 rfl rfl (by kernel_rfl) (by kernel_rfl) (by kernel_rfl) (by kernel_rfl) rfl (yo_pure hT rfl) ?_)
  refine rw_take 4 rfl rfl (by kernel_rfl) (by kernel_rfl) (by kernel_rfl) (by kernel_rfl) rfl (yo_load hT rfl rfl (fun w' hS => Ex.cell hS (hb12.cell 6))) ?_
  refine rw_one 2 rfl (by kernel_rfl) rfl (fun hcl => ?_)
  skip
  refine lw_call hT rfl rfl (clone_str w3 (hB.ex ((hx1.trans hx2).trans hx3)) h1) ?_
  rintro ub w4 ⟨hu4, hx4⟩
  (repeat (refine lw_nil ?_))
  refine qw_rw (by repeat (first | with_reducible refine nop_then ?_ | with_reducible refine nop_block ?_ | with_reducible exact nop_body)) hcl (fun _ => hx3.trans hx4) ?_
  (refine rw_takeP 6 rfl rfl (by kernel_rfl) (by kernel_rfl) (by kernel_rfl) (by kernel_rfl) rfl (yo_pure hT rfl) ?_)
  refine rw_one 5 rfl (by kernel_rfl) rfl (fun hcl => ?_)
  skip
  refine lw_call hT rfl rfl (clone_str w4 (hP.ex (((hx1.trans hx2).trans hx3).trans hx4)) h2) ?_
  rintro up w5 ⟨hu5, hx5⟩
  (repeat (refine lw_nil ?_))
  refine qw_rw (by repeat (first | with_reducible refine nop_then ?_ | with_reducible refine nop_block ?_ | with_reducible exact nop_body)) hcl (fun _ => (hx3.trans hx4).trans hx5) ?_
  refine rw_one 7 rfl (by kernel_rfl) rfl (fun hcl => ?_)
  skip
  have hx15 : Ex w1 w5 := ((hx2.trans hx3).trans hx4).trans hx5
  have hx25 : Ex w2 w5 := ((hx3).trans hx4).trans hx5
  have hub : ub.oneCell' = true := own_one hu4
  have hup : up.oneCell' = true := own_one hu5
  refine lw_store (size := 1) hT rfl rfl rfl hub (hb1.ex hx15) (show (5 : Nat) < 9 by decide) ?_
  intro w6 hb6 hx6 hs6
  (repeat (refine lw_nil ?_))
  refine qw_rw (by repeat (first | with_reducible refine nop_then ?_ | with_reducible refine nop_block ?_ | with_reducible exact nop_body)) hcl (fun h => absurd h (by decide)) ?_
  (refine rw_takeP 8 rfl rfl (by kernel_rfl) (by kernel_rfl) (by kernel_rfl) (by kernel_rfl) rfl (yo_pure hT rfl) ?_)
  refine rw_one 9 rfl (by kernel_rfl) rfl (fun hcl => ?_)
  skip
  refine lw_store (size := 1) hT rfl rfl rfl hup hb6 (show (6 : Nat) < 9 by decide) ?_
  intro w7 hb7 hx7 hs7
  (repeat (refine lw_nil ?_))
  refine qw_rw (by repeat (first | with_reducible refine nop_then ?_ | with_reducible refine nop_block ?_ | with_reducible exact nop_body)) hcl (fun h => absurd h (by decide)) ?_
  refine rw_done (by kernel_rfl) ?_
  (repeat (first | refine cw_seq ?_ | refine cw_region ?_ | refine qw_then ?_))
  have hl1 := hx1.size
  have hl4 := hx4.size
  have hl3 := hx3.size
  have hl5 := hx5.size
  have hne : bc ≠ bb := by omega
  refine lw_load_agg hT rfl rfl rfl (vs := encB b ub up) ((hb7.rd 0 9)) ?_
  skip
  refine lw_store_agg hT rfl rfl rfl rfl ?_ (((hb2.ex hx25).ext hx6 hne).ext hx7 hne) (show (9 : Nat) ≤ 9 by decide) ?_
  · intro v hv
    simp [encB] at hv
    rcases hv with rfl | rfl | rfl | rfl | rfl | rfl | rfl | rfl | rfl <;> first | rfl | assumption
  intro w8 hb8 hx8 hs8
  (repeat (first | refine lw_nil ?_ | refine qw_then ?_ | refine cw_ret ?_))
  have hu7 := own_ext (own_ext (own_ex hu4 hx5) hx6 (fun k hk e => by have := own_base hu4 hk; omega)) hx7 (fun k hk e => by have := own_base hu4 hk; omega)
  have hp7 := own_ext (own_ext hu5 hx6 (fun k hk e => by have := own_base hu5 hk; omega)) hx7 (fun k hk e => by have := own_base hu5 hk; omega)
  refine qw_ret_cell hT rfl rfl rfl rfl (vs := encB b ub up) (hb8.rd 0 9) rfl ⟨ub, up, rfl, ?_, ?_, ?_⟩
  · exact own_mono (own_ext hu7 hx8 (fun k hk e => by have := own_base hu4 hk; omega)) (by omega)
  · exact own_mono (own_ext hp7 hx8 (fun k hk e => by have := own_base hu5 hk; omega)) (by omega)
  · exact (((hx1.trans hx15).up_new hx6 (fun i hi => by omega)).up_new hx7 (fun i hi => by omega)).up_new hx8 (fun i hi => by omega)
end Go.Proofs.YtfbjpfgglgffgaaGreat
