/- supercargolaw23.RegisterAll, walked: it answers true, whatever it is given. -/
import Derived.Test.YtfbjpfgglgffgaaLa
import Derived.Test.YtfbjpfgglgffgaaRp
import Derived.Test.YtfbjpfgglgffgaaGg
set_option linter.unusedVariables false
set_option linter.unusedSimpArgs false
set_option linter.unusedSectionVars false
set_option linter.unnecessarySimpa false
namespace Go.Proofs.Ytfbjpfgglgffgaa
open Go Go.SK

theorem zeroB_ok : zeroB.Ok := by
  refine ⟨?_, ?_, ?_, ?_, ?_, ?_, ?_⟩ <;> first | (show _ ≤ maxLen; decide) | (intro x hx; simp [zeroB] at hx)
def cAt (r : RegD) (bill by_ to_ : ByteArray) (day : Int) : Nat → RegD
  | 0 => r
  | k + 1 => doA (cAt r bill by_ to_ day k) (endA bill by_ to_ day (k : Int))
def eachAt (r : RegD) (bill by_ to_ : ByteArray) (day : Int) : Nat → Bool
  | 0 => true
  | k + 1 => eachAt r bill by_ to_ day k && decide (actC (cAt r bill by_ to_ day k) (endA bill by_ to_ day (k : Int)) = 0)
theorem end_kind (bill by_ to_ : ByteArray) (day k : Int) : 0 ≤ (endA bill by_ to_ day k).kind ∧ (endA bill by_ to_ day k).kind ≤ 5 := (show (0 : Int) ≤ 1 ∧ (1 : Int) ≤ 5 from ⟨by decide, by decide⟩)
theorem good_cAt {k : Nat} {r : RegD} (h : Good k r) {bill by_ to_ : ByteArray} {day : Int} (hto : to_.size ≤ maxLen) : ∀ i, Good (k + i) (cAt r bill by_ to_ day i)
  | 0 => h
  | i + 1 => good_do (good_cAt h hto i) (end_kind _ _ _ _ _) zeroB_ok hto
set_option maxHeartbeats 4000000 in
theorem l23_All {A1 : Nat → Prop} {w : World} {v1 : Value} {l : List ActD} (h1 : ActsAt A1 w v1 l) (bill : ByteArray) (hbill : bill.size ≤ maxLen) (by_ : ByteArray) (hby : by_.size ≤ maxLen) (to_ : ByteArray) (hto : to_.size ≤ maxLen) (day : Int) (hday : (Lit.int .i64 day).wf = true) :
    Ret Try.prog 4 [v1, .string bill, .string by_, .string to_, .int .i64 day] w fun v w' => v = .bool true ∧ Ex w w' := by
  obtain ⟨p1, cap1, rfl, _, _⟩ := h1.is
  refine ret_of Try.func4 Try.ntmps4 rfl rfl rfl ?_
  (repeat (first | refine lw_pure hT rfl ?_ | refine lw_nil ?_ | refine cw_seq ?_ | refine cw_region ?_ | refine qw_then ?_))
  refine lw_call hT rfl rfl (l23_awake w) ?_
  rintro _ w1 ⟨rfl, hx1⟩
  (repeat (first | refine lw_pure hT rfl ?_ | refine lw_nil ?_ | refine cw_seq ?_ | refine cw_region ?_ | refine qw_then ?_ | refine cw_skip ?_ | (refine cw_cond_f rfl ?_ ?_; focus (first | with_reducible rfl | with_reducible exact Bool.not_false | with_reducible exact Bool.not_true))))
  refine lw_call hT rfl rfl (l23_right (h1.ex hx1)) ?_
  rintro _ w2 ⟨⟨b1, rfl, hr1⟩, hx2⟩
  (repeat (refine lw_pure hT rfl ?_))
  have hx02 := hx1.trans hx2
  refine lw_guard rfl (fun e => ?_) (fun e => ?_)
  · (repeat (first | refine lw_pure hT rfl ?_ | refine lw_nil ?_ | refine cw_seq ?_ | refine cw_region ?_ | refine qw_then ?_ | refine cw_ret ?_ | refine qw_then_ret ?_ | (refine lw_goff_t rfl ?_ ?_; focus (first | with_reducible rfl | with_reducible exact Bool.not_false | with_reducible exact Bool.not_true)) | (refine cw_cond_t rfl ?_ ?_; focus (first | with_reducible rfl | with_reducible exact Bool.not_false | with_reducible exact Bool.not_true))))
    exact qw_ret rfl ⟨rfl, hx02⟩
  replace hr1 := hr1 (by simpa using e)
  (repeat (first | refine lw_pure hT rfl ?_ | refine lw_nil ?_ | refine qw_then ?_ | (refine lw_gon_f rfl ?_ ?_; focus (first | with_reducible rfl | with_reducible exact Bool.not_false | with_reducible exact Bool.not_true))))
  refine cw_cond rfl (fun e => ?_) (fun e => ?_)
  · (repeat (first | refine lw_pure hT rfl ?_ | refine lw_nil ?_ | refine cw_seq ?_ | refine cw_region ?_ | refine qw_then ?_ | refine cw_ret ?_ | refine qw_then_ret ?_))
    exact qw_ret rfl ⟨rfl, hx02⟩
  (repeat (first | refine lw_pure hT rfl ?_ | refine cw_seq ?_ | refine cw_region ?_ | refine qw_then ?_ | refine cw_skip ?_))
  refine lw_call hT rfl rfl (l23_play (h1.ex hx02) hr1) ?_
  rintro _ w4 ⟨⟨p, m, gs, vL, fgs, A', rfl, hP⟩, hx4⟩
  have hx04 := hx02.trans hx4
  have hgood := good_run (good_new ⟨#[99]⟩) h1.ok hr1.2
  rw [Nat.zero_add] at hgood
  replace hgood : Good l.length (runA regC l) := hgood
  have hlen := hr1.1.1
  obtain ⟨r0, hr0⟩ : ∃ r0, r0 = runA regC l := ⟨_, rfl⟩
  rw [← hr0] at hgood hP
  have hnew : ∀ b ∈ foot p m gs, w.heap.size ≤ b := fun b hb => by have := hP.new b hb; have := hx02.size; omega
  (repeat (refine lw_pure hT rfl ?_))
  refine lw_alloc z28 ?_
  intro b8 w5 hbb8 hb8 hx5 hs5
  (repeat (refine lw_pure hT rfl ?_))
  refine lw_store_agg hT rfl rfl rfl rfl (by intro v hv; simp [encR] at hv; rcases hv with rfl | rfl <;> first | rfl | exact Sl.one hP.frep.sl) hb8 (show (2 : Nat) ≤ 2 by decide) ?_
  intro w6 hb86 hx6 hs6
  have hx46 : Ex w4 w6 := hx5.up_new hx6 (fun i h => by omega)
  have hx06 := hx04.trans hx46
  have hR6 := hP.rep.ex hx46
  (repeat (first | refine lw_pure hT rfl ?_ | refine lw_nil ?_ | refine cw_seq ?_ | refine cw_region ?_ | refine qw_then ?_ | refine cw_skip ?_ | (refine cw_cond_f rfl ?_ ?_; focus (first | with_reducible rfl | with_reducible exact Bool.not_false | with_reducible exact Bool.not_true)) | refine lw_eqp_some hT rfl rfl ?_))
  refine lw_call hT rfl rfl (reg_Copy hR6 (hgood.small (by omega))) ?_
  rintro _ w7 ⟨⟨pc, mc, gc, rfl, hC, hCn⟩, hx7⟩
  have hx07 := hx06.trans hx7
  have hR7 := hR6.ex hx7
  have hl06 := hx06.size
  have hfl7 : ∀ b ∈ foot p m gs, b < w6.heap.size := fun b hb => hR6.foot_lt hb
  have hl7 := hx7.size
  (repeat (first | refine lw_pure hT rfl ?_ | refine lw_nil ?_ | refine cw_seq ?_ | refine cw_region ?_ | refine qw_then ?_ | refine cw_skip ?_ | refine cw_block ?_ | (refine cw_cond_f rfl ?_ ?_; focus (first | with_reducible rfl | with_reducible exact Bool.not_false | with_reducible exact Bool.not_true)) | refine lw_eqp_some hT rfl rfl ?_))
  refine cw_loop (fun k : Nat => [(1, .string bill), (2, .string by_), (3, .string to_), (4, .int .i64 day), (11, .pointer (some ⟨p, 0, none⟩)), (13, .pointer (some ⟨pc, 0, none⟩)), (14, .bool (eachAt r0 bill by_ to_ day k)), (15, .int .i64 (k : Nat))])
    (fun k w' => k ≤ 3 ∧ ∃ gc', Rep w' pc (cAt r0 bill by_ to_ day k) mc gc' ∧ (∀ b ∈ foot pc mc gc', w6.heap.size ≤ b) ∧ Ex w6 w') (fun k => 3 - k) 0 (by repeat (first | exact trivial | refine ⟨rfl, ?_⟩)) ⟨Nat.zero_le _, gc, hC, hCn, hx7⟩ ?_
  rintro k w8 ⟨hk, gc', hC8, hCn8, hx8⟩
  (repeat (first | refine lw_pure hT rfl ?_ | refine lw_nil ?_ | refine cw_seq ?_ | refine cw_region ?_ | refine qw_then ?_))
  have hG8 := good_cAt hgood hto k (bill := bill) (by_ := by_) (day := day)
  refine cw_cond rfl (fun e => ?_) (fun e => ?_)
  · have hlt : k < 3 := by have := of_decide_eq_true e; omega
    (repeat (first | refine lw_pure hT rfl ?_ | refine cw_seq ?_ | refine cw_region ?_ | refine qw_then ?_ | refine cw_skip ?_ | refine cw_block ?_))
    refine lw_call hT rfl rfl (reg_Endorse hC8 hG8.nd (hG8.small (by omega)) hG8.inv (endA bill by_ to_ day (k : Int)) rfl hto) ?_
    rintro _ w9 ⟨rfl, hm⟩
    obtain ⟨gc9, hC9, hf9⟩ := hm.is
    have hx9 : Ex w6 w9 := hx8.up_new hm.ext hCn8
    have hCn9 : ∀ b ∈ foot pc mc gc9, w6.heap.size ≤ b := fun b hb => by
      rcases hf9 b hb with h | h
      · exact hCn8 b h
      · have := hx8.size; omega
    (repeat (first | refine lw_pure hT rfl ?_ | refine lw_nil ?_ | refine qw_then ?_))
    refine cw_cond rfl (fun e => ?_) (fun e => ?_)
    · have e := of_decide_eq_true e
      have ee : eachAt r0 bill by_ to_ day (k + 1) = false := by simp only [eachAt]; rw [decide_eq_false e, Bool.and_false]
      (repeat (first | (refine lw_add rfl rfl ?_ ?_ ?_; iterate 2 omega) | refine lw_pure hT rfl ?_ | refine lw_nil ?_ | refine cw_region ?_ | refine qw_then ?_ | refine qw_block ?_))
      refine qw_round (k + 1) ?_ ⟨hlt, gc9, hC9, hCn9, hx9⟩ (by omega)
      rw [ee]
      exact (by repeat (first | exact trivial | refine ⟨rfl, ?_⟩))
    · have e : actC (cAt r0 bill by_ to_ day k) (endA bill by_ to_ day (k : Int)) = 0 := by simpa using e
      have ee : eachAt r0 bill by_ to_ day (k + 1) = eachAt r0 bill by_ to_ day k := by simp only [eachAt]; rw [decide_eq_true e, Bool.and_true]
      (repeat (first | (refine lw_add rfl rfl ?_ ?_ ?_; iterate 2 omega) | refine lw_pure hT rfl ?_ | refine lw_nil ?_ | refine cw_region ?_ | refine qw_then ?_ | refine cw_skip ?_ | refine qw_block ?_))
      refine qw_round (k + 1) ?_ ⟨hlt, gc9, hC9, hCn9, hx9⟩ (by omega)
      rw [ee]
      exact (by repeat (first | exact trivial | refine ⟨rfl, ?_⟩))
  · have ek : k = 3 := by have := of_decide_eq_false e; omega
    subst ek
    obtain ⟨law1, law2⟩ := all_law hgood (bill := bill) (by_ := by_) (to_ := to_) (day := day) (c1 := cAt r0 bill by_ to_ day 1) (c2 := cAt r0 bill by_ to_ day 2) (c3 := cAt r0 bill by_ to_ day 3) rfl rfl rfl
    have heach : eachAt r0 bill by_ to_ day 3 = decide (actC r0 (endA bill by_ to_ day (-1)) = 0) := by
      rw [Bool.eq_iff_iff, decide_eq_true_eq, law1]
      simp only [eachAt, Bool.true_and, Bool.and_eq_true, decide_eq_true_eq]
      exact ⟨fun ⟨⟨h1, h2⟩, h3⟩ => ⟨h1, h2, h3⟩, fun ⟨h1, h2, h3⟩ => ⟨⟨h1, h2⟩, h3⟩⟩
    rw [heach]
    have hR8 := hR6.ex hx8
    (repeat (first | refine lw_pure hT rfl ?_ | refine cw_seq ?_ | refine cw_region ?_ | refine qw_then ?_ | refine cw_exit ?_ | refine qw_block_exit ?_ | refine qw_then_exit ?_))
    refine lw_call hT rfl rfl (reg_Full hR8 bill by_) ?_
    rintro _ w9 ⟨rfl, hx9⟩
    have hR9 := hR8.ex hx9
    (repeat (first | refine lw_pure hT rfl ?_ | refine lw_nil ?_ | refine cw_seq ?_ | refine cw_region ?_ | refine qw_then ?_))
    refine lw_call hT rfl rfl (reg_Endorse hR9 hgood.nd (hgood.small (by omega)) hgood.inv (endA bill by_ to_ day (-1)) rfl hto) ?_
    rintro _ w10 ⟨rfl, hm⟩
    obtain ⟨gs10, hR10, hf10⟩ := hm.is
    have hC10 : Rep w10 pc (cAt r0 bill by_ to_ day 3) mc gc' := (hC8.ex hx9).frame hm.ext (fun b hb h => by have := hCn8 b hb; have := hfl7 b h; omega)
    have hx010 : Ex w w10 := ((hx06.trans hx8).trans hx9).up_new hm.ext hnew
    (repeat (refine lw_pure hT rfl ?_))
    refine lw_neq_bool (by kernel_rfl) rfl rfl ?_
    refine lw_nil ?_
    refine qw_then ?_
    refine cw_cond rfl (fun e => ?_) (fun e => ?_)
    · exfalso; revert e; generalize decide (actC r0 (endA bill by_ to_ day (-1)) = 0) = q; cases q <;> decide
    (repeat (first | refine lw_pure hT rfl ?_ | refine cw_seq ?_ | refine cw_region ?_ | refine qw_then ?_ | refine cw_skip ?_))
    refine lw_guard rfl (fun e => ?_) (fun e => ?_)
    · (repeat (first | refine lw_pure hT rfl ?_ | refine lw_nil ?_ | refine qw_then ?_ | refine cw_ret ?_ | refine lw_goff_u rfl ?_ | (refine lw_goff_t rfl ?_ ?_; focus (first | with_reducible rfl | with_reducible exact Bool.not_false | with_reducible exact Bool.not_true))))
      exact qw_ret rfl ⟨rfl, hx010⟩
    have e : actC r0 (endA bill by_ to_ day (-1)) = 0 := by simpa using e
    obtain ⟨f1, f2, f3, f4⟩ := law2 e
    rw [f1]
    (repeat (first | refine lw_pure hT rfl ?_ | (refine lw_gon_t rfl ?_ ?_; focus (first | with_reducible rfl | with_reducible exact Bool.not_false | with_reducible exact Bool.not_true)) | (refine lw_gon_f rfl ?_ ?_; focus (first | with_reducible rfl | with_reducible exact Bool.not_false | with_reducible exact Bool.not_true))))
    refine lw_call hT rfl rfl (reg_Full hR10 bill to_) ?_
    rintro _ w11 ⟨rfl, hx11⟩
    rw [f2]
    (repeat (first | refine lw_pure hT rfl ?_ | (refine lw_gon_t rfl ?_ ?_; focus (first | with_reducible rfl | with_reducible exact Bool.not_false | with_reducible exact Bool.not_true)) | (refine lw_gon_f rfl ?_ ?_; focus (first | with_reducible rfl | with_reducible exact Bool.not_false | with_reducible exact Bool.not_true))))
    refine lw_call hT rfl rfl (reg_Full (hC10.ex hx11) bill to_) ?_
    rintro _ w12 ⟨rfl, hx12⟩
    rw [f3]
    (repeat (first | refine lw_pure hT rfl ?_ | (refine lw_gon_t rfl ?_ ?_; focus (first | with_reducible rfl | with_reducible exact Bool.not_false | with_reducible exact Bool.not_true)) | (refine lw_gon_f rfl ?_ ?_; focus (first | with_reducible rfl | with_reducible exact Bool.not_false | with_reducible exact Bool.not_true))))
    refine lw_call hT rfl rfl (reg_Full ((hR10.ex hx11).ex hx12) bill by_) ?_
    rintro _ w13 ⟨rfl, hx13⟩
    rw [f4]
    (repeat (first | refine lw_pure hT rfl ?_ | refine lw_nil ?_ | refine qw_then ?_ | refine cw_ret ?_ | (refine lw_gon_t rfl ?_ ?_; focus (first | with_reducible rfl | with_reducible exact Bool.not_false | with_reducible exact Bool.not_true)) | (refine lw_gon_f rfl ?_ ?_; focus (first | with_reducible rfl | with_reducible exact Bool.not_false | with_reducible exact Bool.not_true))))
    exact qw_ret rfl ⟨rfl, ((hx010.trans hx11).trans hx12).trans hx13⟩
end Go.Proofs.Ytfbjpfgglgffgaa
