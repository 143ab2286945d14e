/- A bill that is switched tells another shipper and another port, and has the same boxes in the same hands, of at most 41 calls. -/
import Derived.Test.YtnglkhnfmbnfeaaGreatM8
import Derived.Test.YtnglkhnfmbnfeaaGreatRows
import Derived.WalkKit
import Derived.ProofKit
import Derived.OpenShut
import Derived.ShutString
import Derived.ChangeOld
import Derived.Below
import Derived.SizedLaws
set_option linter.unusedVariables false
set_option linter.unusedSimpArgs false
set_option linter.unusedSectionVars false
set_option linter.unnecessarySimpa false
/- Vc -/
namespace Go.Proofs.YtnglkhnfmbnfeaaGreat
open Go Go.SK

def other : ByteArray := ⟨#[111, 116, 104, 101, 114]⟩
def somebody : ByteArray := ⟨#[115, 111, 109, 101, 98, 111, 100, 121]⟩
set_option maxHeartbeats 8000000 in
theorem l24_Switched {A1 : Nat → Prop} {w : World} {v1 : Value} {l : List ActD} (h1 : ActsAt A1 w v1 l) (bill : ByteArray) (hbill : bill.size ≤ maxLen) (by_ : ByteArray) (hby : by_.size ≤ maxLen) (shipper : ByteArray) (hship : shipper.size ≤ maxLen) (frm : ByteArray) (hfrm : frm.size ≤ maxLen) (day : Int) (_ : (Lit.int .i64 day).wf = true) :
    Ret Tryz.prog 9 [v1, .string bill, .string by_, .string shipper, .string frm, .int .i64 day] w fun v w' => v = .bool true ∧ Ex w w' := by
  obtain ⟨p1, cap1, rfl, _, _⟩ := h1.is
  refine ret_of Tryz.func9 Tryz.ntmps9 rfl rfl rfl ?_
  (repeat (first | refine lw_pure hT rfl ?_ | refine lw_nil ?_ | refine cw_seq ?_ | refine cw_region ?_ | refine qw_then ?_))
  refine lw_call hT rfl rfl (l24_awake w) ?_
  rintro _ w1 ⟨rfl, hx1⟩
  have hx01 : Ex w w1 := hx1
  (repeat (first | refine lw_pure hT rfl ?_ | (refine lw_gon_f rfl ?_ ?_; focus (first | with_reducible rfl | with_reducible exact Bool.not_false | with_reducible exact Bool.not_true))))
  refine lw_call hT rfl rfl (r23_Few (h1.ex hx01)) ?_
  rintro _ w2 ⟨⟨b1, rfl, hr1⟩, hx2⟩
  have hx02 := hx01.trans hx2
  (repeat (first | refine lw_pure hT rfl ?_ | refine lw_nil ?_ | refine qw_then ?_ | (refine lw_gon_f rfl ?_ ?_; focus (first | with_reducible rfl | with_reducible exact Bool.not_false | with_reducible exact Bool.not_true))))
  refine cw_cond rfl (fun e => ?_) (fun e => ?_)
  · (repeat (first | refine cw_seq ?_ | refine cw_region ?_))
    refine lw_call hT rfl rfl (l24_awake w2) ?_
    rintro _ w3 ⟨rfl, hx3⟩
    (repeat (first | refine lw_pure hT rfl ?_ | refine lw_nil ?_ | refine qw_then ?_ | refine cw_ret ?_ | refine qw_then_ret ?_))
    exact qw_ret rfl ⟨rfl, hx02.trans hx3⟩
  replace hr1 := hr1 (by simpa using e)
  (repeat (first | refine lw_pure hT rfl ?_ | refine cw_seq ?_ | refine cw_region ?_ | refine qw_then ?_ | refine cw_skip ?_))
  refine lw_call hT rfl rfl (l24_begin (h1.ex hx02) hr1) ?_
  rintro _ w4 ⟨⟨p, m, gs, vL, fgs, A', rfl, hP⟩, hx4⟩
  have hx04 := hx02.trans hx4
  have hgood := good_kept h1.ok
  have hlen := hr1.1
  have ec : (runA regC (keptA l)).carrier = ⟨#[99]⟩ := runA_carrier _ _
  obtain ⟨r0, hr0⟩ : ∃ r0, r0 = runA regC (keptA l) := ⟨_, rfl⟩
  rw [← hr0] at hgood hP ec
  have hl0 := hgood.len
  have hn04 : ∀ b ∈ foot p m gs, w.heap.size ≤ b := fun b hb => by have := hP.new b hb; have := (hx02).size; omega
  (repeat (refine lw_pure hT rfl ?_))
  refine lw_alloc z28 ?_
  intro b14 w5 hbb8 hb8 hx5 hs5
  (repeat (refine lw_pure hT rfl ?_))
  refine lw_store_agg hT rfl rfl rfl rfl (by intro v hv; simp [encR] at hv; rcases hv with rfl | rfl <;> first | rfl | exact Sl.one hP.frep.sl) hb8 (show (2 : Nat) ≤ 2 by decide) ?_
  intro w6 hb86 hx6 hs6
  replace hb86 : Blk w6 b14 (encR ⟨#[99]⟩ vL) 28 := hb86
  have hx46 : Ex w4 w6 := hx5.up_new hx6 (fun i h => by omega)
  have hx06 := hx04.trans hx46
  have hR6 := hP.rep.ex hx46
  have hF6 := hP.frep.lt.ex hx46
  have hfl4 : ∀ b ∈ foot p m gs, b < w4.heap.size := fun b hb => hP.rep.foot_lt hb
  have l46 := hx46.size
  (repeat (first | refine lw_pure hT rfl ?_ | refine lw_nil ?_ | refine cw_seq ?_ | refine cw_region ?_ | refine qw_then ?_))
  refine lw_call hT rfl rfl (reg_Get hR6 (hgood.small (by omega)) bill) ?_
  rintro _ w7 ⟨hget, hx7⟩
  obtain ⟨bb, vb, vp, ok, rfl, o1, o2, hvb, _, hsome, hnone⟩ := getR_all hget
  have hx07 := hx06.trans hx7
  (repeat (refine lw_pure hT rfl ?_))
  refine lw_alloc z33 ?_
  intro b15 w8 hbb15 hb15 hx8 hs8
  skip
  refine lw_store_agg hT rfl rfl rfl rfl (encB_one (A := fun _ => True) (w := w) o1 o2) hb15 (show (9 : Nat) ≤ 9 by decide) ?_
  intro w9 hb9 hx9 hs9
  replace hb9 : Blk w9 b15 (encB bb vb vp) 33 := hb9
  have hx79 : Ex w7 w9 := hx8.up_new hx9 (fun i h => by omega)
  have hx09 := hx07.trans hx79
  have hx69 := hx7.trans hx79
  have hR9 := hR6.ex hx69
  have l69 := hx69.size
  have l7 := hx7.size
  obtain ⟨c0, hc0⟩ : ∃ c0, c0 = switchC r0 bill by_ other shipper frm day := ⟨_, rfl⟩
  have hsw := spl_Switch hR9 hgood (by omega) bill by_ other shipper frm day hbill hby (by decide) hship hfrm
  rw [← hc0] at hsw
  (repeat (first | refine lw_pure hT rfl ?_ | refine lw_nil ?_ | refine cw_seq ?_ | refine cw_region ?_ | refine qw_then ?_))
  refine lw_call hT rfl rfl hsw ?_
  rintro _ w10 ⟨rfl, hm10⟩
  obtain ⟨gs10, hR10, hf10⟩ := hm10.is
  have hx010 : Ex w w10 := hm10.new hx09 hn04
  have hn10 := foot_new hx09 hn04 hf10
  have n9 : ∀ b, w4.heap.size ≤ b → b ∉ foot p m gs := fun b hb h => by have := hfl4 b h; omega
  have hb1410 : Blk w10 b14 (encR ⟨#[99]⟩ vL) 28 := (hb86.ex hx69).ext hm10.ext (n9 _ (by omega))
  have hb1510 : Blk w10 b15 (encB bb vb vp) 33 := hb9.ext hm10.ext (n9 _ (by omega))
  have hvb10 : SlS (NewIn w6.heap.size w7) w10 vb bb.boxes := (hvb.ex hx79).ext hm10.ext (fun b hb => n9 b (by have := hb.1; omega))
  (repeat (first | refine lw_pure hT rfl ?_ | refine lw_nil ?_ | refine cw_seq ?_ | refine cw_region ?_ | refine qw_then ?_))
  refine cw_cond rfl (fun e => ?_) (fun e => ?_)
  · have hne : callC r0 c0 ≠ 0 := of_decide_eq_true e
    rw [callR_ne hne] at hR10
    have hF10 := (hF6.ex hx69).ext hm10.ext (fun b hb => hP.dis b hb.1)
    have hU := l23_Unlike hR10 hgood (by omega) hF10 by_ ⟨#[]⟩
    rw [ec] at hU
    (repeat (first | refine lw_pure hT rfl ?_ | refine cw_seq ?_ | refine cw_region ?_))
    refine lw_load_agg hT rfl rfl rfl (vs := encR ⟨#[99]⟩ vL) (hb1410.rd 0 2) ?_
    (repeat (refine lw_pure hT rfl ?_))
    refine lw_call hT rfl rfl hU ?_
    rintro _ w11 ⟨rfl, hx11⟩
    (repeat (first | refine lw_pure hT rfl ?_ | refine lw_nil ?_ | refine qw_then ?_ | refine cw_ret ?_ | refine qw_then_ret ?_))
    exact qw_ret rfl ⟨rfl, hx010.trans hx11⟩
  have hz : callC r0 c0 = 0 := by simpa using e
  obtain ⟨r1, hr1'⟩ : ∃ r1, r1 = callR r0 c0 := ⟨_, rfl⟩
  rw [← hr1'] at hR10
  have hz' := hz
  rw [hc0] at hz'
  obtain ⟨k1, k2, k3⟩ := callC_zero hz'
  obtain ⟨x, hat, hA⟩ := switch_act hgood (by_ := by_) k1 hbill (by decide) hship hfrm
  obtain ⟨rfl, rfl⟩ := hsome x hat
  rw [hA.eq] at k2
  obtain ⟨hg, hd⟩ := gone hgood hby hA.ok k2
  have er1 : r1 = runA r0 (goL [bill] by_ day [nextB { x.bill with shipper := shipper, frm := frm } other x.bill.boxes [bill] day]) := by rw [hr1', hc0, k3, hA.eq]
  rw [← er1] at hg
  have hG1 : Good (l.length + 65) r1 := by
    rw [hr1', hc0]
    exact good_callR hgood (by rw [hA.eq]; exact goL_ok hby hA.ok hA.new) (by rw [hA.eq, goL_len]; exact hA.len)
  obtain ⟨bo, hbo⟩ : ∃ bo, bo = nextB { x.bill with shipper := shipper, frm := frm } other x.bill.boxes [bill] day := ⟨_, rfl⟩
  have hnew : r1.at? other = some (newEnt bo by_) := by rw [hbo]; exact (hg.new _ List.mem_cons_self).2.2.2
  obtain ⟨xo, _, _, _, _, hold⟩ := hg.old bill (by simp)
  have eb : bo.boxes = x.bill.boxes := by rw [hbo]; rfl
  have e2 : bo.shipper = shipper := by rw [hbo]; rfl
  have e3 : bo.frm = frm := by rw [hbo]; rfl
  have e4 : bo.to_ = x.bill.to_ := by rw [hbo]; rfl
  (repeat (first | refine lw_pure hT rfl ?_ | refine cw_seq ?_ | refine cw_region ?_ | refine qw_then ?_ | refine cw_skip ?_))
  refine lw_call hT rfl rfl (reg_Get hR10 (hG1.small (by omega)) other) ?_
  rintro _ w11 ⟨hget2, hx11⟩
  unfold GetR at hget2
  rw [hnew] at hget2
  obtain ⟨ub, up, rfl, hub, hup⟩ := hget2
  replace hub : w11.ownsRow w10.heap.size 9 1 ub bo.boxes.length (bo.boxes.map Value.string) := hub
  have o3 := own_one hub
  have o4 := own_one hup
  (repeat (refine lw_pure hT rfl ?_))
  refine lw_alloc z33 ?_
  intro b18 w12 hbb18 hb18 hx12 hs12
  skip
  refine lw_store_agg hT rfl rfl rfl rfl (encB_one (A := fun _ => True) (w := w) o3 o4) hb18 (show (9 : Nat) ≤ 9 by decide) ?_
  intro w13 hb13 hx13 hs13
  replace hb13 : Blk w13 b18 (encB bo ub up) 33 := hb13
  have hx1113 : Ex w11 w13 := hx12.up_new hx13 (fun i h => by omega)
  have hx1013 := hx11.trans hx1113
  have hx013 := hx010.trans hx1013
  obtain ⟨ea, hea⟩ : ∃ ea, ea = endA bill by_ somebody day 0 := ⟨_, rfl⟩
  have hed := act_ended (r := r1) (a := ea) (by rw [hea]; exact (show (1 : Int) ≤ 1 ∧ (1 : Int) ≤ 5 from ⟨by decide, by decide⟩)) (show r1.at? ea.bill = _ by rw [hea]; exact hold) (show (4 : Int) ≠ 0 by decide)
  have hend := reg_Endorse (hR10.ex hx1013) hG1.nd (hG1.small (by omega)) hG1.inv ea (by rw [hea]; rfl) (by rw [hea]; exact (show somebody.size ≤ maxLen by decide))
  rw [hed.2] at hend
  (repeat (first | refine lw_pure hT rfl ?_ | refine lw_nil ?_ | refine cw_seq ?_ | refine cw_region ?_ | refine qw_then ?_))
  subst hea
  refine lw_call hT rfl rfl hend ?_
  rintro _ w14 ⟨rfl, hm14⟩
  obtain ⟨gs14, hR14, hf14⟩ := hm14.is
  have hx014 : Ex w w14 := hm14.new hx013 hn10
  have n13 : ∀ b, b ∈ foot p m gs10 → b ∈ foot p m gs ∨ w9.heap.size ≤ b := hf10
  have hb1514 : Blk w14 b15 (encB x.bill vb vp) 33 := (hb1510.ex hx1013).ext hm14.ext (fun h => by
    rcases n13 _ h with h | h
    · exact n9 _ (by omega) h
    · have := hb9.lt; omega)
  have hvb14 : SlS (NewIn w6.heap.size w7) w14 vb x.bill.boxes := (hvb10.ex hx1013).ext hm14.ext (fun b hb h => by
    rcases n13 _ h with h | h
    · exact n9 _ (by have := hb.1; omega) h
    · have := hb.2; have := hx79.size; omega)
  have hfl10 : ∀ b ∈ foot p m gs10, b < w10.heap.size := fun b hb => hR10.foot_lt hb
  have l1011 := hx11.size
  have hb1814 : Blk w14 b18 (encB bo ub up) 33 := hb13.ext hm14.ext (fun h => by have := hfl10 _ h; omega)
  have hub14 : SlS (fun b => w10.heap.size ≤ b) w14 ub bo.boxes := (sls_own (own_ex hub hx1113) fun b hb => (own_base hub hb).1).ext hm14.ext (fun b hb h => by have := hfl10 _ h; omega)
  (repeat (first | refine lw_pure hT rfl ?_ | refine lw_nil ?_ | refine cw_seq ?_ | refine cw_region ?_ | refine qw_then ?_ | (refine lw_gon_t rfl ?_ ?_; focus (first | with_reducible rfl | with_reducible exact Bool.not_false | with_reducible exact Bool.not_true))))
  refine lw_load hT rfl rfl (v := ub) (hb1814.cell 5) ?_
  (repeat (first | refine lw_pure hT rfl ?_ | (refine lw_gon_t rfl ?_ ?_; focus (first | with_reducible rfl | with_reducible exact Bool.not_false | with_reducible exact Bool.not_true))))
  refine lw_load hT rfl rfl (v := vb) (hb1514.cell 5) ?_
  (repeat (refine lw_gon_t rfl ?_ ?_; focus (first | with_reducible rfl | with_reducible exact Bool.not_false | with_reducible exact Bool.not_true)))
  rw [eb] at hub14
  refine lw_call hT rfl rfl (r_Same w14 hub14 hvb14) ?_
  rintro _ w15 ⟨rfl, hx15⟩
  have hb1815 := hb1814.ex hx15
  have hb1515 := hb1514.ex hx15
  (repeat (refine lw_pure hT rfl ?_))
  refine lw_guard rfl (fun _ => ?_) (fun h => absurd h (by simp))
  (repeat (first | refine lw_pure hT rfl ?_ | (refine lw_gon_t rfl ?_ ?_; focus (first | with_reducible rfl | with_reducible exact Bool.not_false | with_reducible exact Bool.not_true))))
  refine lw_load hT rfl rfl (v := .string bo.shipper) (hb1815.cell 2) ?_
  rw [e2]
  (repeat (first | refine lw_pure hT rfl ?_ | (refine lw_gon_t rfl ?_ ?_; focus (first | with_reducible rfl | with_reducible exact Bool.not_false | with_reducible exact Bool.not_true))))
  refine lw_guard rfl (fun _ => ?_) (fun h => absurd h (by simp))
  (repeat (first | refine lw_pure hT rfl ?_ | (refine lw_gon_t rfl ?_ ?_; focus (first | with_reducible rfl | with_reducible exact Bool.not_false | with_reducible exact Bool.not_true))))
  refine lw_load hT rfl rfl (v := .string bo.frm) (hb1815.cell 3) ?_
  rw [e3]
  (repeat (first | refine lw_pure hT rfl ?_ | (refine lw_gon_t rfl ?_ ?_; focus (first | with_reducible rfl | with_reducible exact Bool.not_false | with_reducible exact Bool.not_true))))
  refine lw_guard rfl (fun _ => ?_) (fun h => absurd h (by simp))
  (repeat (first | refine lw_pure hT rfl ?_ | (refine lw_gon_t rfl ?_ ?_; focus (first | with_reducible rfl | with_reducible exact Bool.not_false | with_reducible exact Bool.not_true))))
  refine lw_load hT rfl rfl (v := .string bo.to_) (hb1815.cell 4) ?_
  (repeat (first | refine lw_pure hT rfl ?_ | (refine lw_gon_t rfl ?_ ?_; focus (first | with_reducible rfl | with_reducible exact Bool.not_false | with_reducible exact Bool.not_true))))
  refine lw_load hT rfl rfl (v := .string x.bill.to_) (hb1515.cell 4) ?_
  rw [e4]
  (repeat (first | refine lw_pure hT rfl ?_ | (refine lw_gon_t rfl ?_ ?_; focus (first | with_reducible rfl | with_reducible exact Bool.not_false | with_reducible exact Bool.not_true))))
  refine lw_guard rfl (fun _ => ?_) (fun h => absurd h (by simp))
  (repeat (first | refine lw_pure hT rfl ?_ | (refine lw_gon_t rfl ?_ ?_; focus (first | with_reducible rfl | with_reducible exact Bool.not_false | with_reducible exact Bool.not_true))))
  refine lw_call hT rfl rfl (reg_Full (hR14.ex hx15) other by_) ?_
  rintro _ w16 ⟨rfl, hx16⟩
  rw [full_of hnew, full_new]
  (repeat (first | refine lw_pure hT rfl ?_ | (refine lw_gon_t rfl ?_ ?_; focus (first | with_reducible rfl | with_reducible exact Bool.not_false | with_reducible exact Bool.not_true))))
  refine lw_guard rfl (fun _ => ?_) (fun h => absurd hed.1 (of_decide_eq_false h))
  (repeat (first | refine lw_pure hT rfl ?_ | (refine lw_gon_t rfl ?_ ?_; focus (first | with_reducible rfl | with_reducible exact Bool.not_false | with_reducible exact Bool.not_true))))
  refine lw_call hT rfl rfl (reg_State ((hR14.ex hx15).ex hx16) bill) ?_
  rintro _ _ ⟨rfl, rfl⟩
  rw [state_of hold]
  (repeat (first | refine lw_pure hT rfl ?_ | refine lw_nil ?_ | refine qw_then ?_ | refine cw_ret ?_ | (refine lw_gon_t rfl ?_ ?_; focus (first | with_reducible rfl | with_reducible exact Bool.not_false | with_reducible exact Bool.not_true))))
  exact qw_ret rfl ⟨rfl, (hx014.trans hx15).trans hx16⟩
end Go.Proofs.YtnglkhnfmbnfeaaGreat

/- RowSwitched -/
namespace Go.Proofs.YtnglkhnfmbnfeaaGreat.splitSwitched
open Go Go.SK Go.ChangeShapes Go.WideShapes Go.ChangeAt Go.RowKit
open Go.ChangeMaps (open_string shut_string)
section
attribute [local semireducible] Go.SK.Ret
theorem of_ret {P : Program} {f : FuncId} {args : List Value} {w : World} {R : Value → World → Prop} (h : Ret P f args w R) : Calls P f ⟨args⟩ w fun e w' => ∃ v, e = .returned v ∧ R v w' := h
end
theorem own : ownKnob Tryz.prog.godebug = none := by kernel_rfl
theorem laidOut : laidOutB Tryz.prog = true := by kernel_rfl
set_option maxRecDepth 100000 in
theorem lifted (os : Os) (started : os.Started) (H : Type) (enc : TypeId × Value → H) :
    ReturnsInHanded {} Tryz.checked os 9 .any (Rows.splitSwitchedSpec.pre6 enc Tryz.prog Tryz.f9 Rows.splitSwitchedRow.domain false) (Rows.splitSwitchedSpec.post enc Tryz.prog Tryz.f9 false true false false) := by
  refine returnsInHanded_of_change_sized (C := Tryz.checked) own started (by kernel_rfl) Tryz.func9
    (ChangeSpec.witness6 (enc := enc) (C := Tryz.checked) false ⟨#[], #[.slice none 0 0, .string ByteArray.empty, .string ByteArray.empty, .string ByteArray.empty, .string ByteArray.empty, .int .i64 0], []⟩ 8 (by kernel_rfl) (by kernel_rfl) (by kernel_rfl) (by kernel_rfl)) ?_
  intro W base args ds gs before hval0 hW hcnd hsz0 _
  have hval : ∀ (j : Nat) t v, Tryz.f9.params[j]? = some t → args[j]? = some v → Value.okWide Tryz.prog W .any base t v := hval0
  have hW' := hW
  obtain ⟨p, q, hA0, hV, rfl, hfz, hnd⟩ := hW
  have hA : DataW.TrodAll enc Tryz.prog W 0 (fun _ => true) true Tryz.f9.params.toList args.toList ds p := hA0
  rw [Tryz.params9] at hA hval
  obtain ⟨v0, vs0, d0, ds0, p0, q0, hargs, rfl, rfl, h0, r0⟩ := trodAll_cons hA
  obtain ⟨v1, vs1, d1, ds1, p1, q1, rfl, rfl, rfl, h1, r1⟩ := trodAll_cons r0
  obtain ⟨v2, vs2, d2, ds2, p2, q2, rfl, rfl, rfl, h2, r2⟩ := trodAll_cons r1
  obtain ⟨v3, vs3, d3, ds3, p3, q3, rfl, rfl, rfl, h3, r3⟩ := trodAll_cons r2
  obtain ⟨v4, vs4, d4, ds4, p4, q4, rfl, rfl, rfl, h4, r4⟩ := trodAll_cons r3
  obtain ⟨v5, vs5, d5, ds5, p5, q5, rfl, rfl, rfl, h5, r5⟩ := trodAll_cons r4
  obtain ⟨rfl, rfl, rfl⟩ := trodAll_nil r5
  obtain rfl : args = #[v0, v1, v2, v3, v4, v5] := by cases args; simp_all
  obtain ⟨rfl, rfl⟩ := trodVars_none hV
  obtain ⟨a0, len0, cap0, rfl⟩ := okWide_slice Tryz.underlying22 (hval 0 22 v0 rfl rfl)
  have k0 := h0
  have lt0 : ∀ x ∈ p0, x.block < W.heap.size := by obtain ⟨m, hm⟩ := k0; exact DataW.trod_lt m _ _ _ hm
  obtain ⟨l0, w0⟩ : ∃ l, ActsAt (fun _ => True) W (.slice a0 len0 cap0) l := by
    obtain ⟨fuel, hf⟩ := h0
    obtain ⟨v, l, hcs, hl⟩ := open_acts (fun _ => rfl) hf
    simp [Value.cells] at hcs
    subst hcs
    exact ⟨l, hl⟩
  obtain ⟨a1, rfl, rfl, rfl, y1⟩ := open_string Tryz.underlying9 (hval 1 9 v1 rfl rfl) h1
  obtain ⟨a2, rfl, rfl, rfl, y2⟩ := open_string Tryz.underlying9 (hval 2 9 v2 rfl rfl) h2
  obtain ⟨a3, rfl, rfl, rfl, y3⟩ := open_string Tryz.underlying9 (hval 3 9 v3 rfl rfl) h3
  obtain ⟨a4, rfl, rfl, rfl, y4⟩ := open_string Tryz.underlying9 (hval 4 9 v4 rfl rfl) h4
  obtain ⟨a5, rfl, rfl, rfl, w5⟩ := open_int Tryz.underlying3 (hval 5 3 v5 rfl rfl) h5
  clear hA0 hval0 hsz0
  refine (of_ret (l24_Switched w0 a1 y1 a2 y2 a3 y3 a4 y4 a5 w5)).mono fun e W' ⟨v, he, hv, hx⟩ => ?_
  subst he hv
  have bel : Below W.heap.size W W' := Ext.below hx (Nat.le_refl _) (fun _ _ f => f)
  exact ⟨_, rfl, _, _, _, [], _, [], hW', trodAll_mk1 (shut_bool Tryz.underlying4 _), (trodAll_cons_mk (Below.trod laidOut (by kernel_rfl) (of_decide_eq_true (by kernel_rfl)) k0 bel lt0) (trodAll_cons_mk (shut_string Tryz.underlying9 y1) (trodAll_cons_mk (shut_string Tryz.underlying9 y2) (trodAll_cons_mk (shut_string Tryz.underlying9 y3) (trodAll_cons_mk (shut_string Tryz.underlying9 y4) (trodAll_cons_mk (shut_int Tryz.underlying3 w5) trodAll_mk0)))))), rfl, bel.frame _, fun h => by cases h⟩
theorem over : Rows.splitSwitchedRow.holds Tryz.pinned (OpenSpec.ofChange Rows.splitSwitchedSpec) :=
  OpenClaim.holds_of_wide 9 Tryz.f9 rfl rfl rfl rfl rfl rfl rfl ⟨rfl, rfl, rfl, rfl, rfl⟩ rfl rfl rfl rfl rfl (by kernel_rfl) Tryz.func9 (by kernel_rfl)
    (of_decide_eq_true (by kernel_rfl)) (by unfold Func.isWrapper; first | (rw [if_pos (by decide +kernel)]; kernel_rfl) | (rw [if_neg (by decide +kernel)]; exact ⟨rfl, rfl⟩))
    (fun os started H enc _ => lifted os started H enc)
end Go.Proofs.YtnglkhnfmbnfeaaGreat.splitSwitched
namespace Go.Proofs.YtnglkhnfmbnfeaaGreat
theorem splitSwitched_holds : Rows.SplitSwitchedSaid := splitSwitched.over
#print axioms splitSwitched_holds
end Go.Proofs.YtnglkhnfmbnfeaaGreat
