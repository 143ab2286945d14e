/- supercargolaw23.RegisterPlays, walked: it answers true, whatever it is given. -/
import Derived.Test.YtfbjpfgglgffgaaGreatHd
set_option linter.unusedVariables false
set_option linter.unusedSimpArgs false
set_option linter.unusedSectionVars false
set_option linter.unnecessarySimpa false
namespace Go.Proofs.YtfbjpfgglgffgaaGreat
open Go Go.SK

set_option maxHeartbeats 4000000 in
theorem l23_Plays {A1 : Nat → Prop} {w : World} {v1 : Value} {l : List ActD} (h1 : ActsAt A1 w v1 l) (who : ByteArray) (hwho : who.size ≤ maxLen) (box : ByteArray) (hbox : box.size ≤ maxLen) (bill : ByteArray) (hbill : bill.size ≤ maxLen) (index : Int) (_ : (Lit.int .i64 index).wf = true) :
    Ret Tryz.prog 5 [v1, .string who, .string box, .string bill, .int .i64 index] w fun v w' => v = .bool true ∧ Ex w w' := by
  obtain ⟨p1, cap1, rfl, _, _⟩ := h1.is
  refine ret_of Tryz.func5 Tryz.ntmps5 rfl rfl rfl ?_
  (repeat (first | refine lw_pure hT rfl ?_ | refine lw_nil ?_ | refine cw_seq ?_ | refine cw_region ?_ | refine qw_then ?_))
  refine lw_call hT rfl rfl (l23_awake w) ?_
  rintro _ w1 ⟨rfl, hx1⟩
  (repeat (first | refine lw_pure hT rfl ?_ | refine lw_nil ?_ | refine cw_seq ?_ | refine cw_region ?_ | refine qw_then ?_ | refine cw_skip ?_ | (refine cw_cond_f rfl ?_ ?_; focus (first | with_reducible rfl | with_reducible exact Bool.not_false | with_reducible exact Bool.not_true))))
  refine lw_call hT rfl rfl (l23_right (h1.ex hx1)) ?_
  rintro _ w2 ⟨⟨b1, rfl, hr1⟩, hx2⟩
  (repeat (refine lw_pure hT rfl ?_))
  have hx02 := hx1.trans hx2
  refine lw_guard rfl (fun e => ?_) (fun e => ?_)
  · (repeat (first | refine lw_pure hT rfl ?_ | refine lw_nil ?_ | refine cw_seq ?_ | refine cw_region ?_ | refine qw_then ?_ | refine cw_ret ?_ | refine qw_then_ret ?_ | (refine lw_goff_t rfl ?_ ?_; focus (first | with_reducible rfl | with_reducible exact Bool.not_false | with_reducible exact Bool.not_true)) | (refine cw_cond_t rfl ?_ ?_; focus (first | with_reducible rfl | with_reducible exact Bool.not_false | with_reducible exact Bool.not_true))))
    exact qw_ret rfl ⟨rfl, hx02⟩
  replace hr1 := hr1 (by simpa using e)
  (repeat (first | refine lw_pure hT rfl ?_ | refine lw_nil ?_ | refine qw_then ?_ | (refine lw_gon_f rfl ?_ ?_; focus (first | with_reducible rfl | with_reducible exact Bool.not_false | with_reducible exact Bool.not_true))))
  refine cw_cond rfl (fun e => ?_) (fun e => ?_)
  · (repeat (first | refine lw_pure hT rfl ?_ | refine lw_nil ?_ | refine cw_seq ?_ | refine cw_region ?_ | refine qw_then ?_ | refine cw_ret ?_ | refine qw_then_ret ?_))
    exact qw_ret rfl ⟨rfl, hx02⟩
  (repeat (first | refine lw_pure hT rfl ?_ | refine cw_seq ?_ | refine cw_region ?_ | refine qw_then ?_ | refine cw_skip ?_))
  refine lw_call hT rfl rfl (l23_play (h1.ex hx02) hr1) ?_
  rintro _ w4 ⟨⟨p, m, gs, vL, fgs, A', rfl, hP⟩, hx4⟩
  have hx04 := hx02.trans hx4
  have hgood := good_run (good_new ⟨#[99]⟩) h1.ok hr1.2
  rw [Nat.zero_add] at hgood
  replace hgood : Good l.length (runA regC l) := hgood
  have hlen := hr1.1.1
  have ec : (runA regC l).carrier = ⟨#[99]⟩ := runA_carrier _ _
  obtain ⟨r0, hr0⟩ : ∃ r0, r0 = runA regC l := ⟨_, rfl⟩
  rw [← hr0] at hgood hP ec
  (repeat (refine lw_pure hT rfl ?_))
  refine lw_alloc z28 ?_
  intro b8 w5 hbb8 hb8 hx5 hs5
  (repeat (refine lw_pure hT rfl ?_))
  refine lw_store_agg hT rfl rfl rfl rfl (by intro v hv; simp [encR] at hv; rcases hv with rfl | rfl <;> first | rfl | exact Sl.one hP.frep.sl) hb8 (show (2 : Nat) ≤ 2 by decide) ?_
  intro w6 hb86 hx6 hs6
  replace hb86 : Blk w6 b8 (encR ⟨#[99]⟩ vL) 28 := hb86
  have hx46 : Ex w4 w6 := hx5.up_new hx6 (fun i h => by omega)
  have hx06 := hx04.trans hx46
  have hR6 := hP.rep.ex hx46
  have hF6 := hP.frep.ex hx46
  have hU := l23_Unlike hR6 hgood (by omega) hF6 who box
  rw [ec] at hU
  (repeat (first | refine lw_pure hT rfl ?_ | refine lw_nil ?_ | refine cw_seq ?_ | refine cw_region ?_ | refine qw_then ?_ | (refine lw_gon_f rfl ?_ ?_; focus (first | with_reducible rfl | with_reducible exact Bool.not_false | with_reducible exact Bool.not_true)) | refine lw_eqp_some hT rfl rfl ?_))
  refine lw_load_agg hT rfl rfl rfl (vs := encR ⟨#[99]⟩ vL) (hb86.rd 0 2) ?_
  (repeat (first | refine lw_pure hT rfl ?_ | (refine lw_gon_f rfl ?_ ?_; focus (first | with_reducible rfl | with_reducible exact Bool.not_false | with_reducible exact Bool.not_true))))
  refine lw_call hT rfl rfl hU ?_
  rintro _ w7 ⟨rfl, hx7⟩
  have hx07 := hx06.trans hx7
  (repeat (first | refine lw_pure hT rfl ?_ | refine lw_nil ?_ | refine qw_then ?_ | (refine lw_gon_f rfl ?_ ?_; focus (first | with_reducible rfl | with_reducible exact Bool.not_false | with_reducible exact Bool.not_true))))
  refine cw_cond rfl (fun e => absurd e (by decide)) (fun _ => ?_)
  (repeat (first | refine cw_seq ?_ | refine cw_region ?_ | refine qw_then ?_ | refine cw_skip ?_))
  refine lw_load_agg hT rfl rfl rfl (vs := encR ⟨#[99]⟩ vL) ((hb86.ex hx7).rd 0 2) ?_
  (repeat (refine lw_pure hT rfl ?_))
  refine lw_call hT rfl rfl (r23_Find ⟨#[99]⟩ bill (hF6.ex hx7)) ?_
  rintro _ w8 ⟨rfl, hx8⟩
  have hx08 := hx07.trans hx8
  have hR8 := (hR6.ex hx7).ex hx8
  rcases fidx_cases r0.l bill with ⟨hi, hat⟩ | ⟨i, hil, hi, hat⟩
  · have hat : r0.at? bill = none := hat
    have hp : ∀ k, r0.pap bill k = none := fun k => by unfold RegD.pap; rw [hat]
    have hho : r0.holderOf bill index = none := by unfold RegD.holderOf; rw [hp]
    have hch : r0.chainOf bill index = [] := by unfold RegD.chainOf; rw [hp]
    have hor : r0.origsOf bill = [] := by unfold RegD.origsOf; rw [hat]
    have hfu : r0.fullOf bill who = false := by unfold RegD.fullOf; rw [hat]
    have hst : r0.stateOf bill = -1 := by unfold RegD.stateOf; rw [hat]
    rw [hi]
    (repeat (first | refine lw_pure hT rfl ?_ | refine lw_nil ?_ | refine qw_then ?_))
    refine cw_cond rfl (fun e => absurd e (by decide)) (fun _ => ?_)
    (repeat (first | refine lw_pure hT rfl ?_ | refine cw_seq ?_ | refine cw_region ?_ | refine qw_then ?_ | refine cw_skip ?_))
    refine lw_call hT rfl rfl (reg_Get hR8 (hgood.small (by omega)) bill) ?_
    rintro _ w9 ⟨hget, hx9⟩
    unfold GetR at hget
    rw [hat] at hget
    dsimp only at hget
    subst hget
    have hx09 := hx08.trans hx9
    (repeat (refine lw_pure hT rfl ?_))
    refine lw_alloc z35 ?_
    intro b10 w10 hbb10 hb10 hx10 hs10
    skip
    refine lw_store_agg hT rfl rfl rfl rfl (encB_one (A := fun _ => True) (w := w9) rfl rfl) hb10 (show (9 : Nat) ≤ 9 by decide) ?_
    intro w11 hb11 hx11 hs11
    replace hb11 : Blk w11 b10 (encB zeroB (.slice none 0 0) (.slice none 0 0)) 35 := hb11
    have hx911 : Ex w9 w11 := hx10.up_new hx11 (fun i h => by omega)
    have hx011 := hx09.trans hx911
    have hR11 := (hR8.ex hx9).ex hx911
    (repeat (first | refine lw_pure hT rfl ?_ | refine lw_nil ?_ | refine cw_seq ?_ | refine cw_region ?_ | refine qw_then ?_))
    refine lw_call hT rfl rfl (reg_Holder hR11 bill index) ?_
    rintro _ w12 ⟨rfl, hx12⟩
    rw [hho]
    simp only [Option.getD_none, Option.isSome_none]
    (repeat (first | refine lw_pure hT rfl ?_ | refine lw_nil ?_ | refine cw_seq ?_ | refine cw_region ?_ | refine qw_then ?_ | (refine lw_gon_t rfl ?_ ?_; focus (first | with_reducible rfl | with_reducible exact Bool.not_false | with_reducible exact Bool.not_true))))
    refine lw_load_agg hT rfl rfl rfl (vs := encB zeroB (.slice none 0 0) (.slice none 0 0)) ((hb11.ex hx12).rd 0 9) ?_
    (repeat (refine lw_gon_t rfl ?_ ?_; focus (first | with_reducible rfl | with_reducible exact Bool.not_false | with_reducible exact Bool.not_true)))
    refine lw_build bt35 rfl ?_
    (repeat (refine lw_gon_t rfl ?_ ?_; focus (first | with_reducible rfl | with_reducible exact Bool.not_false | with_reducible exact Bool.not_true)))
    refine lw_call hT rfl rfl (r23_Same (A := fun _ => True) (B := fun _ => True) (b := zeroB) (vb := .slice none 0 0) (vp := .slice none 0 0) (ub := .slice none 0 0) (up := .slice none 0 0) (Sl.nil _ _ _) (Sl.nil _ _ _) (Sl.nil _ _ _) (Sl.nil _ _ _)) ?_
    rintro _ w13 ⟨rfl, hx13⟩
    have hx1113 := hx12.trans hx13
    (repeat (first | refine lw_pure hT rfl ?_ | (refine lw_gon_t rfl ?_ ?_; focus (first | with_reducible rfl | with_reducible exact Bool.not_false | with_reducible exact Bool.not_true))))
    have hs13 := reg_State (hR11.ex hx1113) bill
    refine lw_call hT rfl (by rfl) hs13 ?_
    rintro _ _ ⟨rfl, rfl⟩
    rw [hst]
    (repeat (first | refine lw_pure hT rfl ?_ | (refine lw_gon_t rfl ?_ ?_; focus (first | with_reducible rfl | with_reducible exact Bool.not_false | with_reducible exact Bool.not_true))))
    refine lw_guard rfl (fun _ => ?_) (fun e => absurd e (by decide))
    (repeat (first | refine lw_pure hT rfl ?_ | (refine lw_gon_t rfl ?_ ?_; focus (first | with_reducible rfl | with_reducible exact Bool.not_false | with_reducible exact Bool.not_true))))
    refine lw_call hT rfl (by rfl) (reg_Originals (hR11.ex hx1113) bill) ?_
    rintro u14 w14 ⟨hu14, hx14⟩
    rw [hor] at hu14
    obtain ⟨a14, c14, rfl⟩ := own_slice0 hu14
    (repeat (first | refine lw_pure hT rfl ?_ | (refine lw_gon_t rfl ?_ ?_; focus (first | with_reducible rfl | with_reducible exact Bool.not_false | with_reducible exact Bool.not_true))))
    refine lw_guard rfl (fun _ => ?_) (fun e => absurd e (by decide))
    (repeat (first | refine lw_pure hT rfl ?_ | (refine lw_gon_t rfl ?_ ?_; focus (first | with_reducible rfl | with_reducible exact Bool.not_false | with_reducible exact Bool.not_true))))
    refine lw_call hT rfl (by rfl) (reg_Chain ((hR11.ex hx1113).ex hx14) (hgood.small (by omega)) bill index) ?_
    rintro u15 w15 ⟨hu15, hx15⟩
    rw [hch] at hu15
    obtain ⟨a15, c15, rfl⟩ := own_slice0 hu15
    (repeat (first | refine lw_pure hT rfl ?_ | (refine lw_gon_t rfl ?_ ?_; focus (first | with_reducible rfl | with_reducible exact Bool.not_false | with_reducible exact Bool.not_true))))
    refine lw_guard rfl (fun _ => ?_) (fun e => absurd e (by decide))
    (repeat (first | refine lw_pure hT rfl ?_ | (refine lw_gon_t rfl ?_ ?_; focus (first | with_reducible rfl | with_reducible exact Bool.not_false | with_reducible exact Bool.not_true))))
    refine lw_call hT rfl (by rfl) (reg_Full (((hR11.ex hx1113).ex hx14).ex hx15) bill who) ?_
    rintro _ w16 ⟨rfl, hx16⟩
    rw [hfu]
    (repeat (first | refine lw_pure hT rfl ?_ | refine lw_nil ?_ | refine qw_then ?_ | refine cw_ret ?_ | (refine lw_gon_t rfl ?_ ?_; focus (first | with_reducible rfl | with_reducible exact Bool.not_false | with_reducible exact Bool.not_true))))
    exact qw_ret rfl ⟨rfl, (((hx011.trans hx1113).trans hx14).trans hx15).trans hx16⟩
  · rw [hi]
    (repeat (first | refine lw_pure hT rfl ?_ | refine lw_nil ?_ | refine qw_then ?_))
    refine cw_cond rfl (fun _ => ?_) (fun e => by have := of_decide_eq_false e; omega)
    (repeat (first | refine lw_pure hT rfl ?_ | refine cw_seq ?_ | refine cw_region ?_))
    refine lw_call hT rfl rfl (reg_Holder hR8 bill index) ?_
    rintro _ w9 ⟨rfl, hx9⟩
    have hx09 := hx08.trans hx9
    by_cases hin : 0 ≤ index ∧ index ≤ 2
    · (repeat (first | refine lw_pure hT rfl ?_ | refine lw_nil ?_ | refine cw_seq ?_ | refine cw_region ?_ | refine qw_then ?_))
      refine lw_guard rfl (fun e => ?_) (fun e => by have := of_decide_eq_false e; omega)
      (repeat (first | refine lw_pure hT rfl ?_ | (refine lw_gon_t rfl ?_ ?_; focus (first | with_reducible rfl | with_reducible exact Bool.not_false | with_reducible exact Bool.not_true))))
      refine lw_guard rfl (fun e' => ?_) (fun e' => by have := of_decide_eq_false e'; omega)
      (repeat (first | refine lw_pure hT rfl ?_ | refine lw_nil ?_ | refine qw_then ?_ | refine cw_ret ?_ | refine qw_then_ret ?_ | refine lw_goff_u rfl ?_ | (refine lw_goff_t rfl ?_ ?_; focus (first | with_reducible rfl | with_reducible exact Bool.not_false | with_reducible exact Bool.not_true))))
      exact qw_ret rfl ⟨by rfl, hx09⟩
    · have hp : r0.pap bill index = none := by
        unfold RegD.pap
        split
        · rfl
        · rw [if_neg (by omega)]
      have hho : r0.holderOf bill index = none := by unfold RegD.holderOf; rw [hp]
      have hch : r0.chainOf bill index = [] := by unfold RegD.chainOf; rw [hp]
      rw [hho]
      simp only [Option.getD_none, Option.isSome_none]
      (repeat (first | refine lw_pure hT rfl ?_ | refine lw_nil ?_ | refine cw_seq ?_ | refine cw_region ?_ | refine qw_then ?_))
      refine lw_guard rfl (fun e => ?_) (fun e => ?_)
      · (repeat (first | refine lw_pure hT rfl ?_ | (refine lw_gon_t rfl ?_ ?_; focus (first | with_reducible rfl | with_reducible exact Bool.not_false | with_reducible exact Bool.not_true))))
        refine lw_guard rfl (fun e' => by have := of_decide_eq_true e; have := of_decide_eq_true e'; omega) (fun e' => ?_)
        (repeat (first | refine lw_pure hT rfl ?_ | (refine lw_gon_t rfl ?_ ?_; focus (first | with_reducible rfl | with_reducible exact Bool.not_false | with_reducible exact Bool.not_true)) | (refine lw_gon_f rfl ?_ ?_; focus (first | with_reducible rfl | with_reducible exact Bool.not_false | with_reducible exact Bool.not_true))))
        refine lw_call hT rfl rfl (reg_Chain (hR8.ex hx9) (hgood.small (by omega)) bill index) ?_
        rintro u15 w15 ⟨hu15, hx15⟩
        rw [hch] at hu15
        obtain ⟨a15, c15, rfl⟩ := own_slice0 hu15
        (repeat (first | refine lw_pure hT rfl ?_ | refine lw_nil ?_ | refine qw_then ?_ | refine cw_ret ?_ | refine qw_then_ret ?_ | (refine lw_gon_t rfl ?_ ?_; focus (first | with_reducible rfl | with_reducible exact Bool.not_false | with_reducible exact Bool.not_true)) | (refine lw_gon_f rfl ?_ ?_; focus (first | with_reducible rfl | with_reducible exact Bool.not_false | with_reducible exact Bool.not_true))))
        exact qw_ret rfl ⟨rfl, hx09.trans hx15⟩
      · (repeat (first | refine lw_pure hT rfl ?_ | (refine lw_gon_t rfl ?_ ?_; focus (first | with_reducible rfl | with_reducible exact Bool.not_false | with_reducible exact Bool.not_true)) | (refine lw_goff_f rfl ?_ ?_; focus (first | with_reducible rfl | with_reducible exact Bool.not_false | with_reducible exact Bool.not_true)) | (refine lw_gon_f rfl ?_ ?_; focus (first | with_reducible rfl | with_reducible exact Bool.not_false | with_reducible exact Bool.not_true))))
        refine lw_call hT rfl rfl (reg_Chain (hR8.ex hx9) (hgood.small (by omega)) bill index) ?_
        rintro u15 w15 ⟨hu15, hx15⟩
        rw [hch] at hu15
        obtain ⟨a15, c15, rfl⟩ := own_slice0 hu15
        (repeat (first | refine lw_pure hT rfl ?_ | refine lw_nil ?_ | refine qw_then ?_ | refine cw_ret ?_ | refine qw_then_ret ?_ | (refine lw_gon_t rfl ?_ ?_; focus (first | with_reducible rfl | with_reducible exact Bool.not_false | with_reducible exact Bool.not_true)) | (refine lw_gon_f rfl ?_ ?_; focus (first | with_reducible rfl | with_reducible exact Bool.not_false | with_reducible exact Bool.not_true))))
        exact qw_ret rfl ⟨rfl, hx09.trans hx15⟩
end Go.Proofs.YtfbjpfgglgffgaaGreat
