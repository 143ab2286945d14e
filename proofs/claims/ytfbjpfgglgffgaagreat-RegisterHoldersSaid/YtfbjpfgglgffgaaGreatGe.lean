/- Contract of supercargolaw23.awake: the document's example, run. -/
import Derived.Test.YtfbjpfgglgffgaaGreatGd
import Derived.Test.YtfbjpfgglgffgaaGreatRf
set_option linter.unusedVariables false
set_option linter.unusedSimpArgs false
set_option linter.unusedSectionVars false
set_option linter.unnecessarySimpa false
namespace Go.Proofs.YtfbjpfgglgffgaaGreat
open Go Go.SK

def awB : BillD := ⟨⟨#[98, 108]⟩, ⟨#[99]⟩, ⟨#[115]⟩, ⟨#[102]⟩, ⟨#[116]⟩, [⟨#[97, 97, 97, 97, 48, 48, 48, 48, 48, 49, 50, 48]⟩], [], 0, false⟩
def aw1 : ActD := ⟨1, -1, 1, ⟨#[98, 108]⟩, ⟨#[115]⟩, ⟨#[107]⟩, awB⟩
def aw2 : ActD := ⟨1, -1, 1, ⟨#[98, 108]⟩, ⟨#[107]⟩, ⟨#[121]⟩, awB⟩
def aw3 : ActD := ⟨2, 1, 2, ⟨#[98, 108]⟩, ⟨#[121]⟩, ⟨#[]⟩, awB⟩
def awR0 : RegD := issueD regC awB ⟨#[115]⟩
def awR1 : RegD := doA awR0 aw1
def awR2 : RegD := doA awR1 aw2
def awR3 : RegD := doA awR2 aw3
theorem aw_c0 : issueC regC awB ⟨#[115]⟩ = 0 := by kernel_rfl
theorem aw_c1 : actC awR0 aw1 = 0 := by kernel_rfl
theorem aw_c2 : actC awR1 aw2 = 0 := by kernel_rfl
theorem aw_c3 : actC awR2 aw3 = 0 := by kernel_rfl
theorem aw_boxes : (awR2.at? ⟨#[98, 108]⟩).map (fun e => e.bill.boxes.length) = some 1 := by kernel_rfl
theorem aw_state : awR3.stateOf ⟨#[98, 108]⟩ = 1 := by kernel_rfl
theorem aw_len : (awR3.origsOf ⟨#[98, 108]⟩).length = 3 := by kernel_rfl
theorem aw_void : ((awR3.origsOf ⟨#[98, 108]⟩)[0]?).map (fun q => (q.1.state, q.2)) = some (2, 0) := by kernel_rfl
theorem awB_ok : awB.Ok := by
  refine ⟨?_, ?_, ?_, ?_, ?_, ?_, ?_⟩ <;> first | (show _ ≤ maxLen; decide) | (intro x hx; simp [awB] at hx; try subst hx; decide)
theorem aw_good0 : Good 1 awR0 := good_issue (good_new _) awB_ok (by decide)
theorem aw_good1 : Good 2 awR1 := good_do aw_good0 (by decide) awB_ok (by decide)
theorem aw_good2 : Good 3 awR2 := good_do aw_good1 (by decide) awB_ok (by decide)
theorem own_slice {w : World} {base e size n : Nat} {v : Value} {xs : List Value} (h : w.ownsRow base e size v n xs) (hn : 0 < n) : ∃ g cap, v = .slice (some ⟨g, 0, none⟩) n cap := by
  rcases h.2 with ⟨_, h0⟩ | ⟨g, cap, cur, rfl, _⟩
  · omega
  · exact ⟨g, cap, rfl⟩
set_option maxHeartbeats 2000000 in
theorem l23_awake (w : World) : Ret Tryz.prog 9 [] w fun v w' => v = .bool true ∧ Ex w w' := by
  refine ret_of Tryz.func9 Tryz.ntmps9 rfl rfl rfl ?_
  (repeat (first | refine lw_pure hT rfl ?_ | refine lw_nil ?_ | refine cw_seq ?_ | refine cw_region ?_ | refine qw_then ?_))
  refine lw_call hT rfl rfl (reg_New w ⟨#[99]⟩) ?_
  rintro _ w1 ⟨p, m, rfl, hR, hp, hm, hx1⟩
  (repeat (first | refine lw_pure hT rfl ?_ | refine lw_nil ?_ | refine cw_seq ?_ | refine cw_region ?_ | refine qw_then ?_ | refine cw_skip ?_ | (refine cw_cond_f rfl ?_ ?_; focus (first | with_reducible rfl | with_reducible exact Bool.not_false | with_reducible exact Bool.not_true)) | refine lw_eqp_some hT rfl rfl ?_))
  refine lw_buildSlice sl32 rfl rfl rfl ?_
  intro b2 w2 hbb2 hb2 hx2 hs2
  skip
  refine lw_build bt35 rfl ?_
  skip
  have hB : SlS (fun _ => True) w2 (.slice (some ⟨b2, 0, none⟩) 1 1) awB.boxes := sls_of_blk (l := awB.boxes) hb2 (by decide)
  refine lw_call hT rfl rfl (reg_Issue (b := awB) (vp := .slice none 0 0) (hR.ex hx2) hB (Sl.nil (fun _ => True) _ _) awB_ok ⟨#[115]⟩ (by decide)) ?_
  rintro _ w3 ⟨rfl, hm3⟩
  obtain ⟨gs3, hR3, hf3⟩ := hm3.is
  rw [show issueC { carrier := { data := #[99] }, l := [] } awB { data := #[115] } = 0 from aw_c0]
  replace hR3 : Rep w3 p awR0 m gs3 := hR3
  (repeat (first | refine lw_pure hT rfl ?_ | refine lw_nil ?_ | refine cw_seq ?_ | refine cw_region ?_ | refine qw_then ?_))
  refine lw_call hT rfl rfl (reg_Endorse hR3 aw_good0.nd (aw_good0.small (by decide)) aw_good0.inv aw1 rfl (by decide)) ?_
  rintro _ w4 ⟨rfl, hm4⟩
  obtain ⟨gs4, hR4, hf4⟩ := hm4.is
  rw [aw_c1]
  (repeat (refine lw_pure hT rfl ?_))
  refine lw_call hT rfl rfl (reg_Endorse (r := awR1) hR4 aw_good1.nd (aw_good1.small (by decide)) aw_good1.inv aw2 rfl (by decide)) ?_
  rintro _ w5 ⟨rfl, hm5⟩
  obtain ⟨gs5, hR5, hf5⟩ := hm5.is
  rw [aw_c2]
  (repeat (first | refine lw_pure hT rfl ?_ | refine lw_nil ?_ | refine cw_seq ?_ | refine cw_region ?_ | refine qw_then ?_))
  refine lw_call hT rfl rfl (reg_Surrender (r := awR2) hR5 aw_good2.nd (aw_good2.small (by decide)) aw3 rfl) ?_
  rintro _ w6 ⟨⟨u, rfl, _, hu⟩, hm6⟩
  obtain ⟨gs6, hR6, hf6⟩ := hm6.is
  rw [aw_c3]
  obtain ⟨x, hx, hxb⟩ := Option.map_eq_some_iff.1 aw_boxes
  have how := hu x aw_c3 hx
  obtain ⟨g, cap, rfl⟩ := own_slice how (by omega)
  rw [hxb]
  (repeat (first | refine lw_pure hT rfl ?_ | refine lw_nil ?_ | refine cw_seq ?_ | refine cw_region ?_ | refine qw_then ?_))
  refine lw_guard rfl (fun _ => ?_) (fun h => absurd h (by decide))
  (repeat (first | refine lw_pure hT rfl ?_ | (refine lw_gon_t rfl ?_ ?_; focus (first | with_reducible rfl | with_reducible exact Bool.not_false | with_reducible exact Bool.not_true))))
  refine lw_guard rfl (fun _ => ?_) (fun h => absurd h (by decide))
  (repeat (first | refine lw_pure hT rfl ?_ | (refine lw_gon_t rfl ?_ ?_; focus (first | with_reducible rfl | with_reducible exact Bool.not_false | with_reducible exact Bool.not_true))))
  refine lw_guard rfl (fun _ => ?_) (fun h => absurd h (by decide))
  (repeat (first | refine lw_pure hT rfl ?_ | (refine lw_gon_t rfl ?_ ?_; focus (first | with_reducible rfl | with_reducible exact Bool.not_false | with_reducible exact Bool.not_true))))
  refine lw_guard rfl (fun _ => ?_) (fun h => absurd h (by decide))
  (repeat (first | refine lw_pure hT rfl ?_ | (refine lw_gon_t rfl ?_ ?_; focus (first | with_reducible rfl | with_reducible exact Bool.not_false | with_reducible exact Bool.not_true))))
  refine lw_guard rfl (fun _ => ?_) (fun h => absurd h (by decide))
  (repeat (first | refine lw_pure hT rfl ?_ | (refine lw_gon_t rfl ?_ ?_; focus (first | with_reducible rfl | with_reducible exact Bool.not_false | with_reducible exact Bool.not_true))))
  refine lw_call hT rfl rfl (reg_State (r := awR3) hR6 ⟨#[98, 108]⟩) ?_
  rintro _ _ ⟨rfl, rfl⟩
  rw [aw_state]
  (repeat (first | refine lw_pure hT rfl ?_ | (refine lw_gon_t rfl ?_ ?_; focus (first | with_reducible rfl | with_reducible exact Bool.not_false | with_reducible exact Bool.not_true))))
  refine lw_guard rfl (fun _ => ?_) (fun h => absurd h (by decide))
  (repeat (first | refine lw_pure hT rfl ?_ | (refine lw_gon_t rfl ?_ ?_; focus (first | with_reducible rfl | with_reducible exact Bool.not_false | with_reducible exact Bool.not_true))))
  refine lw_call hT rfl rfl (reg_Originals (r := awR3) hR6 ⟨#[98, 108]⟩) ?_
  rintro u7 w7 ⟨hu7, hx7⟩
  rw [aw_len] at hu7
  obtain ⟨g7, c7, rfl⟩ := own_slice hu7 (by decide)
  (repeat (first | refine lw_pure hT rfl ?_ | (refine lw_gon_t rfl ?_ ?_; focus (first | with_reducible rfl | with_reducible exact Bool.not_false | with_reducible exact Bool.not_true))))
  refine lw_guard rfl (fun _ => ?_) (fun h => absurd h (by decide))
  (repeat (first | refine lw_pure hT rfl ?_ | (refine lw_gon_t rfl ?_ ?_; focus (first | with_reducible rfl | with_reducible exact Bool.not_false | with_reducible exact Bool.not_true))))
  refine lw_call hT rfl rfl (reg_Originals (r := awR3) (hR6.ex hx7) ⟨#[98, 108]⟩) ?_
  rintro u8 w8 ⟨hu8, hx8⟩
  obtain ⟨q, hq, hq0⟩ := Option.map_eq_some_iff.1 aw_void
  simp only [Prod.mk.injEq] at hq0
  have hsl : Sl (fun _ => True) w8 u8 4 ((awR3.origsOf ⟨#[98, 108]⟩).map fun x => origRow ⟨#[98, 108]⟩ x.1 x.2) := own_sl (by rw [List.length_map]; exact hu8) (by intro r hr; obtain ⟨y, _, rfl⟩ := List.mem_map.1 hr; rfl) (fun _ _ => trivial)
  obtain ⟨b8, o8, c8, rfl, _, hlt8, _, hrd8⟩ := hsl.at (i := 0) (row := origRow ⟨#[98, 108]⟩ q.1 q.2) (by rw [List.getElem?_map, hq]; rfl)
  (repeat (refine lw_gon_t rfl ?_ ?_; focus (first | with_reducible rfl | with_reducible exact Bool.not_false | with_reducible exact Bool.not_true)))
  refine lw_index hT rfl rfl rfl 0 rfl hlt8 ?_
  (repeat (first | refine lw_pure hT rfl ?_ | (refine lw_gon_t rfl ?_ ?_; focus (first | with_reducible rfl | with_reducible exact Bool.not_false | with_reducible exact Bool.not_true))))
  refine lw_load hT rfl rfl (v := .int .i64 2) (by have := hrd8 2 _ rfl; rw [hq0.1] at this; exact this) ?_
  (repeat (first | refine lw_pure hT rfl ?_ | refine lw_nil ?_ | refine qw_then ?_ | refine cw_ret ?_ | (refine lw_gon_t rfl ?_ ?_; focus (first | with_reducible rfl | with_reducible exact Bool.not_false | with_reducible exact Bool.not_true))))
  have n3 : ∀ b ∈ foot p m [], w.heap.size ≤ b := by
    intro b hb
    rcases foot_mem.1 hb with rfl | rfl | ⟨i, g, h1, _⟩
    · exact hp
    · exact hm
    · simp at h1
  have hx02 := hx1.trans hx2
  have hx03 : Ex w w3 := hx02.up_new hm3.ext n3
  have n4 : ∀ b ∈ foot p m gs3, w.heap.size ≤ b := fun b hb => by rcases hf3 b hb with h | h; exact n3 b h; have := hx02.size; omega
  have hx04 : Ex w w4 := hx03.up_new hm4.ext n4
  have n5 : ∀ b ∈ foot p m gs4, w.heap.size ≤ b := fun b hb => by rcases hf4 b hb with h | h; exact n4 b h; have := hx03.size; omega
  have hx05 : Ex w w5 := hx04.up_new hm5.ext n5
  have n6 : ∀ b ∈ foot p m gs5, w.heap.size ≤ b := fun b hb => by rcases hf5 b hb with h | h; exact n5 b h; have := hx04.size; omega
  have hx06 : Ex w w6 := hx05.up_new hm6.ext n6
  exact qw_ret rfl ⟨rfl, (hx06.trans hx7).trans hx8⟩
end Go.Proofs.YtfbjpfgglgffgaaGreat
