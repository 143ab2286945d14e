/- supercargolaw23.RegisterLost, walked: it answers true, whatever it is given. -/
import Derived.Test.YtfbjpfgglgffgaaLa
import Derived.Test.YtfbjpfgglgffgaaRp
import Derived.Test.YtfbjpfgglgffgaaGi
import Derived.Test.YtfbjpfgglgffgaaGh
set_option linter.unusedVariables false
set_option linter.unusedSimpArgs false
set_option linter.unusedSectionVars false
set_option linter.unnecessarySimpa false
namespace Go.Proofs.Ytfbjpfgglgffgaa
open Go Go.SK

theorem origs_row {r : RegD} {n : ByteArray} {x : EntD} {w : World} {u : Value} {base : Nat} (h : r.at? n = some x) (h3 : x.ps.length = 3) (ho : w.ownsRow base 50 4 u (r.origsOf n).length ((r.origsOf n).map fun y => origRow n y.1 y.2).flatten) :
    ∃ g c, u = .slice (some ⟨g, 0, none⟩) 3 c ∧ base ≤ g ∧ ∀ i, i < 3 → Rd w g (0 + i * 4) (origRow n (papAt x i) i) := by
  have h3' : (r.origsOf n).length = 3 := (orig_at h h3 (i := 0) (by decide)).2
  obtain ⟨g, c, rfl⟩ := own_slice ho (by omega)
  rw [h3'] at ho ⊢
  have hsl : Sl (fun _ => True) w (.slice (some ⟨g, 0, none⟩) 3 c) 4 ((r.origsOf n).map fun y => origRow n y.1 y.2) := own_sl (by rw [List.length_map, h3']; exact ho) (by intro r hr; obtain ⟨y, _, rfl⟩ := List.mem_map.1 hr; rfl) (fun _ _ => trivial)
  refine ⟨g, c, rfl, (own_base ho rfl).1, fun i hi => ?_⟩
  obtain ⟨bb, oo, cc, hv, _, _, _, hrd⟩ := hsl.at (i := i) (row := origRow n (papAt x i) i) (by rw [List.getElem?_map, (orig_at h h3 hi).1]; rfl)
  simp only [Value.slice.injEq, Option.some.injEq, Addr.mk.injEq, and_true] at hv
  obtain ⟨⟨rfl, rfl⟩, _, _⟩ := hv
  exact hrd
theorem mem3 {i : Nat} (hi : i < 3) : i ∈ ixs (-1) := by
  show i ∈ [0, 1, 2]
  simp only [List.mem_cons, List.not_mem_nil, or_false]
  omega
theorem own_slice0 {w : World} {base e size n : Nat} {v : Value} {xs : List Value} (h : w.ownsRow base e size v n xs) : ∃ a cap, v = .slice a n cap := by
  rcases h.2 with ⟨rfl, h0⟩ | ⟨g, cap, cur, rfl, _⟩
  · subst h0; exact ⟨none, 0, rfl⟩
  · exact ⟨_, cap, rfl⟩
set_option maxHeartbeats 8000000 in
theorem l23_Lost {A1 : Nat → Prop} {w : World} {v1 : Value} {l : List ActD} (h1 : ActsAt A1 w v1 l) (bill : ByteArray) (hbill : bill.size ≤ maxLen) (index : Int) (_ : (Lit.int .i64 index).wf = true) (other : Int) (_ : (Lit.int .i64 other).wf = true) (day : Int) (_ : (Lit.int .i64 day).wf = true) (to_ : ByteArray) (hto : to_.size ≤ maxLen) :
    Ret Try.prog 5 [v1, .string bill, .int .i64 index, .int .i64 other, .int .i64 day, .string to_] w fun v w' => v = .bool true ∧ Ex w w' := by
  obtain ⟨p1, cap1, rfl, _, _⟩ := h1.is
  refine ret_of Try.func5 Try.ntmps5 rfl rfl rfl ?_
  (repeat (first | refine lw_pure hT rfl ?_ | refine lw_nil ?_ | refine cw_seq ?_ | refine cw_region ?_ | refine qw_then ?_))
  refine lw_call hT rfl rfl (l23_awake w) ?_
  rintro _ w1 ⟨rfl, hx1⟩
  (repeat (first | refine lw_pure hT rfl ?_ | refine lw_nil ?_ | refine cw_seq ?_ | refine cw_region ?_ | refine qw_then ?_ | refine cw_skip ?_ | (refine cw_cond_f rfl ?_ ?_; focus (first | with_reducible rfl | with_reducible exact Bool.not_false | with_reducible exact Bool.not_true))))
  refine lw_call hT rfl rfl (l23_right (h1.ex hx1)) ?_
  rintro _ w2 ⟨⟨b1, rfl, hr1⟩, hx2⟩
  (repeat (refine lw_pure hT rfl ?_))
  have hx02 := hx1.trans hx2
  refine lw_guard rfl (fun e => ?_) (fun e => ?_)
  · (repeat (first | refine lw_pure hT rfl ?_ | refine lw_nil ?_ | refine cw_seq ?_ | refine cw_region ?_ | refine qw_then ?_ | refine cw_ret ?_ | refine qw_then_ret ?_ | (refine lw_goff_t rfl ?_ ?_; focus (first | with_reducible rfl | with_reducible exact Bool.not_false | with_reducible exact Bool.not_true)) | (refine cw_cond_t rfl ?_ ?_; focus (first | with_reducible rfl | with_reducible exact Bool.not_false | with_reducible exact Bool.not_true))))
    exact qw_ret rfl ⟨rfl, hx02⟩
  replace hr1 := hr1 (by simpa using e)
  (repeat (first | refine lw_pure hT rfl ?_ | (refine lw_gon_f rfl ?_ ?_; focus (first | with_reducible rfl | with_reducible exact Bool.not_false | with_reducible exact Bool.not_true))))
  refine lw_guard rfl (fun e => ?_) (fun _ => ?_)
  · (repeat (first | refine lw_pure hT rfl ?_ | refine lw_nil ?_ | refine cw_seq ?_ | refine cw_region ?_ | refine qw_then ?_ | refine cw_ret ?_ | refine qw_then_ret ?_ | (refine lw_goff_t rfl ?_ ?_; focus (first | with_reducible rfl | with_reducible exact Bool.not_false | with_reducible exact Bool.not_true)) | (refine cw_cond_t rfl ?_ ?_; focus (first | with_reducible rfl | with_reducible exact Bool.not_false | with_reducible exact Bool.not_true))))
    exact qw_ret rfl ⟨rfl, hx02⟩
  (repeat (first | refine lw_pure hT rfl ?_ | (refine lw_gon_f rfl ?_ ?_; focus (first | with_reducible rfl | with_reducible exact Bool.not_false | with_reducible exact Bool.not_true))))
  refine lw_guard rfl (fun e => ?_) (fun e1 => ?_)
  · (repeat (first | refine lw_pure hT rfl ?_ | refine lw_nil ?_ | refine cw_seq ?_ | refine cw_region ?_ | refine qw_then ?_ | refine cw_ret ?_ | refine qw_then_ret ?_ | (refine lw_goff_t rfl ?_ ?_; focus (first | with_reducible rfl | with_reducible exact Bool.not_false | with_reducible exact Bool.not_true)) | (refine cw_cond_t rfl ?_ ?_; focus (first | with_reducible rfl | with_reducible exact Bool.not_false | with_reducible exact Bool.not_true))))
    exact qw_ret rfl ⟨rfl, hx02⟩
  (repeat (first | refine lw_pure hT rfl ?_ | (refine lw_gon_f rfl ?_ ?_; focus (first | with_reducible rfl | with_reducible exact Bool.not_false | with_reducible exact Bool.not_true))))
  refine lw_guard rfl (fun e => ?_) (fun e2 => ?_)
  · (repeat (first | refine lw_pure hT rfl ?_ | refine lw_nil ?_ | refine cw_seq ?_ | refine cw_region ?_ | refine qw_then ?_ | refine cw_ret ?_ | refine qw_then_ret ?_ | (refine lw_goff_t rfl ?_ ?_; focus (first | with_reducible rfl | with_reducible exact Bool.not_false | with_reducible exact Bool.not_true)) | (refine cw_cond_t rfl ?_ ?_; focus (first | with_reducible rfl | with_reducible exact Bool.not_false | with_reducible exact Bool.not_true))))
    exact qw_ret rfl ⟨rfl, hx02⟩
  (repeat (first | refine lw_pure hT rfl ?_ | (refine lw_gon_f rfl ?_ ?_; focus (first | with_reducible rfl | with_reducible exact Bool.not_false | with_reducible exact Bool.not_true))))
  refine lw_guard rfl (fun e => ?_) (fun e3 => ?_)
  · (repeat (first | refine lw_pure hT rfl ?_ | refine lw_nil ?_ | refine cw_seq ?_ | refine cw_region ?_ | refine qw_then ?_ | refine cw_ret ?_ | refine qw_then_ret ?_ | (refine lw_goff_t rfl ?_ ?_; focus (first | with_reducible rfl | with_reducible exact Bool.not_false | with_reducible exact Bool.not_true)) | (refine cw_cond_t rfl ?_ ?_; focus (first | with_reducible rfl | with_reducible exact Bool.not_false | with_reducible exact Bool.not_true))))
    exact qw_ret rfl ⟨rfl, hx02⟩
  (repeat (first | refine lw_pure hT rfl ?_ | (refine lw_gon_f rfl ?_ ?_; focus (first | with_reducible rfl | with_reducible exact Bool.not_false | with_reducible exact Bool.not_true))))
  refine lw_guard rfl (fun e => ?_) (fun e4 => ?_)
  · (repeat (first | refine lw_pure hT rfl ?_ | refine lw_nil ?_ | refine cw_seq ?_ | refine cw_region ?_ | refine qw_then ?_ | refine cw_ret ?_ | refine qw_then_ret ?_ | (refine lw_goff_t rfl ?_ ?_; focus (first | with_reducible rfl | with_reducible exact Bool.not_false | with_reducible exact Bool.not_true)) | (refine cw_cond_t rfl ?_ ?_; focus (first | with_reducible rfl | with_reducible exact Bool.not_false | with_reducible exact Bool.not_true))))
    exact qw_ret rfl ⟨rfl, hx02⟩
  (repeat (first | refine lw_pure hT rfl ?_ | refine lw_nil ?_ | refine qw_then ?_ | (refine lw_gon_f rfl ?_ ?_; focus (first | with_reducible rfl | with_reducible exact Bool.not_false | with_reducible exact Bool.not_true))))
  refine cw_cond rfl (fun e => ?_) (fun e5 => ?_)
  · (repeat (first | refine lw_pure hT rfl ?_ | refine lw_nil ?_ | refine cw_seq ?_ | refine cw_region ?_ | refine qw_then ?_ | refine cw_ret ?_ | refine qw_then_ret ?_))
    exact qw_ret rfl ⟨rfl, hx02⟩
  have e1 := of_decide_eq_false e1
  have e2 := of_decide_eq_false e2
  have e3 := of_decide_eq_false e3
  have e4 := of_decide_eq_false e4
  have e5 := of_decide_eq_false e5
  obtain ⟨i, rfl⟩ : ∃ i : Nat, index = i := ⟨index.toNat, by omega⟩
  obtain ⟨j, rfl⟩ : ∃ j : Nat, other = j := ⟨other.toNat, by omega⟩
  have hi : i < 3 := by omega
  have hj : j < 3 := by omega
  have hij : j ≠ i := by omega
  (repeat (first | refine lw_pure hT rfl ?_ | refine cw_seq ?_ | refine cw_region ?_ | refine qw_then ?_ | refine cw_skip ?_))
  refine lw_call hT rfl rfl (l23_play (h1.ex hx02) hr1) ?_
  rintro _ w4 ⟨⟨p, m, gs, vL, fgs, A', rfl, hP⟩, hx4⟩
  have hx04 := hx02.trans hx4
  have hgood := good_run (good_new ⟨#[99]⟩) h1.ok hr1.2
  rw [Nat.zero_add] at hgood
  replace hgood : Good l.length (runA regC l) := hgood
  have hlen := hr1.1.1
  obtain ⟨r0, hr0⟩ : ∃ r0, r0 = runA regC l := ⟨_, rfl⟩
  rw [← hr0] at hgood hP
  have hnew : ∀ b ∈ foot p m gs, w.heap.size ≤ b := fun b hb => by have := hP.new b hb; have := hx02.size; omega
  (repeat (refine lw_pure hT rfl ?_))
  refine lw_alloc z28 ?_
  intro b8 w5 hbb8 hb8 hx5 hs5
  (repeat (refine lw_pure hT rfl ?_))
  refine lw_store_agg hT rfl rfl rfl rfl (by intro v hv; simp [encR] at hv; rcases hv with rfl | rfl <;> first | rfl | exact Sl.one hP.frep.sl) hb8 (show (2 : Nat) ≤ 2 by decide) ?_
  intro w6 hb86 hx6 hs6
  have hx46 : Ex w4 w6 := hx5.up_new hx6 (fun i h => by omega)
  have hx06 := hx04.trans hx46
  have hR6 := hP.rep.ex hx46
  (repeat (first | refine lw_pure hT rfl ?_ | refine lw_nil ?_ | refine cw_seq ?_ | refine cw_region ?_ | refine qw_then ?_ | refine cw_skip ?_ | (refine cw_cond_f rfl ?_ ?_; focus (first | with_reducible rfl | with_reducible exact Bool.not_false | with_reducible exact Bool.not_true)) | refine lw_eqp_some hT rfl rfl ?_))
  refine lw_call hT rfl rfl (reg_Originals hR6 bill) ?_
  rintro u w7 ⟨hu, hx7⟩
  have hx07 := hx06.trans hx7
  have hR7 := hR6.ex hx7
  have hfl6 : ∀ b ∈ foot p m gs, b < w6.heap.size := fun b hb => hR6.foot_lt hb
  cases hat : r0.at? bill with
  | none =>
    have h0 : (r0.origsOf bill).length = 0 := by unfold RegD.origsOf; rw [hat]; rfl
    rw [h0] at hu
    obtain ⟨a, c, rfl⟩ := own_slice0 hu
    (repeat (first | refine lw_pure hT rfl ?_ | refine lw_nil ?_ | refine cw_seq ?_ | refine cw_region ?_ | refine qw_then ?_))
    refine lw_guard rfl (fun _ => ?_) (fun e => absurd e (by decide))
    (repeat (first | refine lw_pure hT rfl ?_ | refine lw_nil ?_ | refine cw_seq ?_ | refine cw_region ?_ | refine qw_then ?_ | refine cw_ret ?_ | refine qw_then_ret ?_ | (refine lw_goff_t rfl ?_ ?_; focus (first | with_reducible rfl | with_reducible exact Bool.not_false | with_reducible exact Bool.not_true)) | (refine cw_cond_t rfl ?_ ?_; focus (first | with_reducible rfl | with_reducible exact Bool.not_false | with_reducible exact Bool.not_true))))
    exact qw_ret rfl ⟨rfl, hx07⟩
  | some x =>
    obtain ⟨_, ix, hxi⟩ := at_some hat
    have hE := hgood.ent x (List.mem_of_getElem? hxi)
    have h3 := hE.three
    obtain ⟨g15, c15, rfl, hg15, hrow⟩ := origs_row hat h3 hu
    obtain ⟨q, hq⟩ : ∃ q, q = papAt x i := ⟨_, rfl⟩
    have hqm : q ∈ x.ps := by rw [hq]; exact List.mem_of_getElem? (papAt_get h3 hi)
    have hri := hrow i hi
    rw [← hq] at hri
    (repeat (first | refine lw_pure hT rfl ?_ | refine lw_nil ?_ | refine cw_seq ?_ | refine cw_region ?_ | refine qw_then ?_))
    refine lw_guard rfl (fun e => absurd e (by decide)) (fun _ => ?_)
    (repeat (first | refine lw_pure hT rfl ?_ | (refine lw_gon_f rfl ?_ ?_; focus (first | with_reducible rfl | with_reducible exact Bool.not_false | with_reducible exact Bool.not_true))))
    refine lw_call hT rfl rfl (reg_State hR7 bill) ?_
    rintro _ _ ⟨rfl, rfl⟩
    rw [state_of hat]
    (repeat (first | refine lw_pure hT rfl ?_ | (refine lw_gon_f rfl ?_ ?_; focus (first | with_reducible rfl | with_reducible exact Bool.not_false | with_reducible exact Bool.not_true))))
    refine lw_guard rfl (fun e => ?_) (fun e => ?_)
    · (repeat (first | refine lw_pure hT rfl ?_ | refine lw_nil ?_ | refine cw_seq ?_ | refine cw_region ?_ | refine qw_then ?_ | refine cw_ret ?_ | refine qw_then_ret ?_ | (refine lw_goff_t rfl ?_ ?_; focus (first | with_reducible rfl | with_reducible exact Bool.not_false | with_reducible exact Bool.not_true)) | (refine cw_cond_t rfl ?_ ?_; focus (first | with_reducible rfl | with_reducible exact Bool.not_false | with_reducible exact Bool.not_true))))
      exact qw_ret rfl ⟨rfl, hx07⟩
    have hx0 : x.state = 0 := by simpa using e
    (repeat (first | refine lw_pure hT rfl ?_ | (refine lw_gon_f rfl ?_ ?_; focus (first | with_reducible rfl | with_reducible exact Bool.not_false | with_reducible exact Bool.not_true))))
    refine lw_index hT rfl rfl rfl i rfl hi ?_
    (repeat (first | refine lw_pure hT rfl ?_ | (refine lw_gon_f rfl ?_ ?_; focus (first | with_reducible rfl | with_reducible exact Bool.not_false | with_reducible exact Bool.not_true))))
    refine lw_load hT rfl rfl (v := .int .i64 q.state) (hri 2 _ rfl) ?_
    (repeat (first | refine lw_pure hT rfl ?_ | (refine lw_gon_f rfl ?_ ?_; focus (first | with_reducible rfl | with_reducible exact Bool.not_false | with_reducible exact Bool.not_true))))
    refine lw_guard rfl (fun e => ?_) (fun e => ?_)
    · (repeat (first | refine lw_pure hT rfl ?_ | refine lw_nil ?_ | refine cw_seq ?_ | refine cw_region ?_ | refine qw_then ?_ | refine cw_ret ?_ | refine qw_then_ret ?_ | (refine lw_goff_t rfl ?_ ?_; focus (first | with_reducible rfl | with_reducible exact Bool.not_false | with_reducible exact Bool.not_true)) | (refine cw_cond_t rfl ?_ ?_; focus (first | with_reducible rfl | with_reducible exact Bool.not_false | with_reducible exact Bool.not_true))))
      exact qw_ret rfl ⟨rfl, hx07⟩
    have hq0 : q.state = 0 := by simpa using e
    (repeat (first | refine lw_pure hT rfl ?_ | (refine lw_gon_f rfl ?_ ?_; focus (first | with_reducible rfl | with_reducible exact Bool.not_false | with_reducible exact Bool.not_true))))
    refine lw_index hT rfl rfl rfl i rfl hi ?_
    (repeat (first | refine lw_pure hT rfl ?_ | (refine lw_gon_f rfl ?_ ?_; focus (first | with_reducible rfl | with_reducible exact Bool.not_false | with_reducible exact Bool.not_true))))
    refine lw_load hT rfl rfl (v := .string q.holder) (hri 3 _ rfl) ?_
    (repeat (refine lw_gon_f rfl ?_ ?_; focus (first | with_reducible rfl | with_reducible exact Bool.not_false | with_reducible exact Bool.not_true)))
    refine lw_call hT rfl rfl (reg_Lose hR7 hgood.nd (loseA bill q.holder i) rfl) ?_
    rintro _ w8 ⟨rfl, hM8⟩
    have hx08 : Ex w w8 := hx07.up_new hM8.ext hnew
    (repeat (first | refine lw_pure hT rfl ?_ | refine lw_nil ?_ | refine qw_then ?_ | (refine lw_gon_f rfl ?_ ?_; focus (first | with_reducible rfl | with_reducible exact Bool.not_false | with_reducible exact Bool.not_true))))
    refine cw_cond rfl (fun e => ?_) (fun e => ?_)
    · (repeat (first | refine lw_pure hT rfl ?_ | refine lw_nil ?_ | refine cw_seq ?_ | refine cw_region ?_ | refine qw_then ?_ | refine cw_ret ?_ | refine qw_then_ret ?_))
      exact qw_ret rfl ⟨rfl, hx08⟩
    have hkl : 1 ≤ (loseA bill q.holder i).kind ∧ (loseA bill q.holder i).kind ≤ 5 := (show (1 : Int) ≤ 3 ∧ (3 : Int) ≤ 5 from ⟨by decide, by decide⟩)
    have hac : actC r0 (loseA bill q.holder i) = 0 := by simpa using e
    have hask : askE x (loseA bill q.holder i).ask = 0 := by rw [← (at_step hkl hat).1]; exact hac
    have hat1 := (act_done hkl hat hask).2
    replace hat1 : (doA r0 (loseA bill q.holder i)).at? bill = some (x.after (loseA bill q.holder i)) := hat1
    have hG1 : Good (l.length + 1) (doA r0 (loseA bill q.holder i)) := good_do hgood (show (0 : Int) ≤ 3 ∧ (3 : Int) ≤ 5 from ⟨by decide, by decide⟩) zeroB_ok (Nat.zero_le _)
    rw [lose_after x bill q.holder hi] at hat1
    obtain ⟨r1, hr1e⟩ : ∃ r1, r1 = doA r0 (loseA bill q.holder i) := ⟨_, rfl⟩
    rw [← hr1e] at hat1 hG1 hM8
    obtain ⟨x1, hx1e⟩ : ∃ x1 : EntD, x1 = { x with ps := onIx [i] (stateP 3) x.ps } := ⟨_, rfl⟩
    rw [← hx1e] at hat1
    have h31 : x1.ps.length = 3 := by rw [hx1e]; show (onIx _ _ _).length = 3; rw [onIx_len]; exact h3
    have hs1 : x1.state = 0 := by rw [hx1e]; exact hx0
    have hb1 : x1.bill = x.bill := by rw [hx1e]
    have hp1i : papAt x1 i = stateP 3 q := by rw [papAt_onIx h3 (by rw [hx1e]) hi, hq]; simp
    have hp1j : papAt x1 j = papAt x j := by rw [papAt_onIx h3 (by rw [hx1e]) hj]; simp [hij]
    have hlost : (papAt x1 i).state = 3 := by rw [hp1i]; rfl
    have hold1 : (papAt x1 i).holder = q.holder := by rw [hp1i]; rfl
    have hl7 := hx7.size
    have hg15f : g15 ∉ foot p m gs := fun h => by have := hfl6 _ h; omega
    obtain ⟨gk, hR8, hf8⟩ := hM8.is
    (repeat (first | refine lw_pure hT rfl ?_ | refine cw_seq ?_ | refine cw_region ?_ | refine qw_then ?_ | refine cw_skip ?_))
    refine lw_index hT rfl rfl rfl i rfl hi ?_
    (repeat (refine lw_pure hT rfl ?_))
    refine lw_load hT rfl rfl (v := .string q.holder) (((hri.ext hM8.ext hg15f) 3 _ rfl)) ?_
    (repeat (first | refine lw_pure hT rfl ?_ | refine lw_nil ?_ | refine cw_seq ?_ | refine cw_region ?_ | refine qw_then ?_))
    -- it isn't surrendered
    have hks : 1 ≤ (surrA bill q.holder day i).kind ∧ (surrA bill q.holder day i).kind ≤ 5 := (show (1 : Int) ≤ 2 ∧ (2 : Int) ≤ 5 from ⟨by decide, by decide⟩)
    have nos := act_refused hks hat1 (lost_no hlost (by simp [ActD.ask, surrA, oneI_nat hi, ixs_nat hi]) (by simp [ActD.ask, surrA]))
    refine lw_call hT rfl rfl (reg_Surrender hR8 hG1.nd (hG1.small (by omega)) (surrA bill q.holder day i) rfl) ?_
    rintro _ w9 ⟨⟨u9, rfl, _, _⟩, hm9⟩
    rw [nos.2] at hm9
    have hM9 := Mut.step hf8 hM8.ext hm9
    obtain ⟨gk9, hR9, hf9⟩ := hM9.is
    (repeat (first | refine lw_pure hT rfl ?_ | refine lw_nil ?_ | refine cw_seq ?_ | refine cw_region ?_ | refine qw_then ?_))
    refine lw_guard rfl (fun e => absurd (of_decide_eq_true e) nos.1) (fun _ => ?_)
    (repeat (first | refine lw_pure hT rfl ?_ | (refine lw_gon_f rfl ?_ ?_; focus (first | with_reducible rfl | with_reducible exact Bool.not_false | with_reducible exact Bool.not_true))))
    -- nor endorsed
    have noe := act_refused (a := endA bill q.holder to_ day i) (show (1 : Int) ≤ 1 ∧ (1 : Int) ≤ 5 from ⟨by decide, by decide⟩) hat1 (lost_no hlost (by simp [ActD.ask, endA, ixs_nat hi]) (by simp [ActD.ask, endA]))
    refine lw_call hT rfl rfl (reg_Endorse hR9 hG1.nd (hG1.small (by omega)) hG1.inv (endA bill q.holder to_ day i) rfl hto) ?_
    rintro _ w10 ⟨rfl, hm10⟩
    rw [noe.2] at hm10
    have hM10 := Mut.step hf9 hM9.ext hm10
    obtain ⟨gk10, hR10, hf10⟩ := hM10.is
    (repeat (first | refine lw_pure hT rfl ?_ | (refine lw_gon_f rfl ?_ ?_; focus (first | with_reducible rfl | with_reducible exact Bool.not_false | with_reducible exact Bool.not_true))))
    refine lw_guard rfl (fun e => absurd (of_decide_eq_true e) noe.1) (fun _ => ?_)
    (repeat (first | refine lw_pure hT rfl ?_ | (refine lw_gon_f rfl ?_ ?_; focus (first | with_reducible rfl | with_reducible exact Bool.not_false | with_reducible exact Bool.not_true))))
    have noa := act_refused (a := endA bill q.holder to_ day (-1)) (show (1 : Int) ≤ 1 ∧ (1 : Int) ≤ 5 from ⟨by decide, by decide⟩) hat1 (lost_no hlost (mem3 hi) (by simp [ActD.ask, endA]))
    refine lw_call hT rfl rfl (reg_Endorse hR10 hG1.nd (hG1.small (by omega)) hG1.inv (endA bill q.holder to_ day (-1)) rfl hto) ?_
    rintro _ w11 ⟨rfl, hm11⟩
    rw [noa.2] at hm11
    have hM11 := Mut.step hf10 hM10.ext hm11
    obtain ⟨gk11, hR11, hf11⟩ := hM11.is
    (repeat (first | refine lw_pure hT rfl ?_ | (refine lw_gon_f rfl ?_ ?_; focus (first | with_reducible rfl | with_reducible exact Bool.not_false | with_reducible exact Bool.not_true))))
    refine lw_guard rfl (fun e => absurd (of_decide_eq_true e) noa.1) (fun _ => ?_)
    (repeat (first | refine lw_pure hT rfl ?_ | (refine lw_gon_f rfl ?_ ?_; focus (first | with_reducible rfl | with_reducible exact Bool.not_false | with_reducible exact Bool.not_true))))
    -- nor lost again
    have nol : actC r1 (loseA bill q.holder i) = 9 := by rw [(at_step hkl hat1).1]; exact lost_again hi hlost
    have nol2 := (act_refused hkl hat1 (by rw [lost_again hi hlost]; decide)).2
    refine lw_call hT rfl rfl (reg_Lose hR11 hG1.nd (loseA bill q.holder i) rfl) ?_
    rintro _ w12 ⟨rfl, hm12⟩
    rw [nol2] at hm12
    have hM12 := Mut.step hf11 hM11.ext hm12
    obtain ⟨gk12, hR12, hf12⟩ := hM12.is
    rw [nol]
    (repeat (first | refine lw_pure hT rfl ?_ | (refine lw_gon_f rfl ?_ ?_; focus (first | with_reducible rfl | with_reducible exact Bool.not_false | with_reducible exact Bool.not_true))))
    refine lw_guard rfl (fun e => absurd e (by decide)) (fun _ => ?_)
    (repeat (first | refine lw_pure hT rfl ?_ | (refine lw_gon_f rfl ?_ ?_; focus (first | with_reducible rfl | with_reducible exact Bool.not_false | with_reducible exact Bool.not_true))))
    -- nor retired
    have nor := act_refused (a := retiA bill q.holder day) (show (1 : Int) ≤ 5 ∧ (5 : Int) ≤ 5 from ⟨by decide, by decide⟩) hat1 (lost_no hlost (mem3 hi) (by simp [ActD.ask, retiA]))
    refine lw_call hT rfl rfl (reg_Retire hR12 hG1.nd (retiA bill q.holder day) rfl) ?_
    rintro _ w13 ⟨rfl, hm13⟩
    rw [nor.2] at hm13
    have hM13 := Mut.step hf12 hM12.ext hm13
    obtain ⟨gk13, hR13, hf13⟩ := hM13.is
    (repeat (first | refine lw_pure hT rfl ?_ | (refine lw_gon_f rfl ?_ ?_; focus (first | with_reducible rfl | with_reducible exact Bool.not_false | with_reducible exact Bool.not_true))))
    refine lw_guard rfl (fun e => absurd (of_decide_eq_true e) nor.1) (fun _ => ?_)
    (repeat (first | refine lw_pure hT rfl ?_ | (refine lw_gon_f rfl ?_ ?_; focus (first | with_reducible rfl | with_reducible exact Bool.not_false | with_reducible exact Bool.not_true))))
    have nof : r1.fullOf bill q.holder = false := by
      rw [full_of hat1]
      cases hf : x1.full q.holder with
      | false => rfl
      | true =>
        rw [full_iff h31] at hf
        have := (hf.2 i hi).1
        rw [hlost] at this; cases this
    refine lw_call hT rfl rfl (reg_Full hR13 bill q.holder) ?_
    rintro _ w14 ⟨rfl, hx14⟩
    rw [nof]
    have hM14 := hM13.ex hx14
    have hR14 := hR13.ex hx14
    have hf14 : ∀ b ∈ foot p m gk13, w.heap.size ≤ b := fun b hb => by
      rcases hf13 b hb with h | h
      · exact hnew b h
      · have := hx07.size; omega
    have hx014 : Ex w w14 := hx07.up_new hM14.ext hnew
    have hri14 := hri.ext hM14.ext hg15f
    have hrj14 := (hrow j hj).ext hM14.ext hg15f
    (repeat (first | refine lw_pure hT rfl ?_ | refine lw_nil ?_ | refine cw_seq ?_ | refine cw_region ?_ | refine qw_then ?_ | refine cw_skip ?_ | (refine cw_cond_f rfl ?_ ?_; focus (first | with_reducible rfl | with_reducible exact Bool.not_false | with_reducible exact Bool.not_true))))
    refine lw_call hT rfl rfl (reg_Holder hR14 bill i) ?_
    rintro _ w15 ⟨rfl, hx15⟩
    have hol : r1.holderOf bill (i : Nat) = some q.holder := by rw [← hold1]; exact holder_of hat1 h31 hi hs1 (.inr hlost)
    rw [hol]
    simp only [Option.getD_some, Option.isSome_some]
    (repeat (first | refine lw_pure hT rfl ?_ | refine lw_nil ?_ | refine cw_seq ?_ | refine cw_region ?_ | refine qw_then ?_ | (refine lw_gon_f rfl ?_ ?_; focus (first | with_reducible rfl | with_reducible exact Bool.not_false | with_reducible exact Bool.not_true))))
    refine lw_guard rfl (fun e => absurd rfl (of_decide_eq_true e)) (fun _ => ?_)
    (repeat (first | refine lw_pure hT rfl ?_ | (refine lw_gon_f rfl ?_ ?_; focus (first | with_reducible rfl | with_reducible exact Bool.not_false | with_reducible exact Bool.not_true))))
    refine lw_call hT rfl rfl (reg_Originals (hR14.ex hx15) bill) ?_
    rintro u16 w16 ⟨hu16, hx16⟩
    obtain ⟨g16, c16, rfl, _, hrow16⟩ := origs_row hat1 h31 hu16
    (repeat (first | refine lw_pure hT rfl ?_ | (refine lw_gon_f rfl ?_ ?_; focus (first | with_reducible rfl | with_reducible exact Bool.not_false | with_reducible exact Bool.not_true))))
    refine lw_index hT rfl rfl rfl i rfl hi ?_
    (repeat (first | refine lw_pure hT rfl ?_ | (refine lw_gon_f rfl ?_ ?_; focus (first | with_reducible rfl | with_reducible exact Bool.not_false | with_reducible exact Bool.not_true))))
    refine lw_load hT rfl rfl (v := .int .i64 3) (by have := (hrow16 i hi) 2 _ rfl; rw [hlost] at this; exact this) ?_
    (repeat (first | refine lw_pure hT rfl ?_ | refine lw_nil ?_ | refine qw_then ?_ | (refine lw_gon_f rfl ?_ ?_; focus (first | with_reducible rfl | with_reducible exact Bool.not_false | with_reducible exact Bool.not_true))))
    refine cw_cond rfl (fun e => absurd e (by decide)) (fun _ => ?_)
    have hx1416 := hx15.trans hx16
    have hR16 := hR14.ex hx1416
    have hx016 := hx014.trans hx1416
    (repeat (first | refine lw_pure hT rfl ?_ | refine cw_seq ?_ | refine cw_region ?_ | refine qw_then ?_ | refine cw_skip ?_))
    refine lw_call hT rfl rfl (reg_Copy hR16 (hG1.small (by omega))) ?_
    rintro _ w17 ⟨⟨pc, mc, gc, rfl, hC, hCn⟩, hx17⟩
    have hR17 := hR16.ex hx17
    have hx017 := hx016.trans hx17
    have hx1417 := hx1416.trans hx17
    have hfl16 : ∀ b ∈ foot p m gk13, b < w16.heap.size := fun b hb => hR16.foot_lt hb
    have hl016 := hx016.size
    -- behind the look at the copy
    refine lw_pure hT rfl ?_
    refine lw_nil ?_
    refine qw_then ?_
    refine cw_seq ?_
    refine cw_seq ?_
    refine cw_region ?_
    refine lw_pure hT rfl ?_
    refine lw_eqp_some hT rfl rfl ?_
    refine lw_nil ?_
    refine qw_then ?_
    refine cw_cond_f rfl rfl ?_
    refine cw_skip ?_
    refine qw_then ?_
    refine cw_seq ?_
    refine cw_then_cut (α := Unit) (fun _ => [(1, .string bill), (2, .int .i64 (i : Nat)), (13, pB p), (16, .string q.holder)]) (fun _ w' => ∃ gk, Rep w' p r1 m gk ∧ (∀ b ∈ foot p m gk, w.heap.size ≤ b) ∧ Ex w w') ?_ ?_
    · unfold pB
      have hrj17 := hrj14.ex hx1417
      (repeat (first | refine lw_pure hT rfl ?_ | refine cw_seq ?_ | refine cw_region ?_))
      refine lw_index hT rfl rfl rfl j rfl hj ?_
      (repeat (refine lw_pure hT rfl ?_))
      refine lw_load hT rfl rfl (v := .int .i64 (papAt x j).state) (hrj17 2 _ rfl) ?_
      (repeat (first | refine lw_pure hT rfl ?_ | refine lw_nil ?_ | refine qw_then ?_))
      refine cw_cond rfl (fun e => ?_) (fun e => ?_)
      · have hj0 : (papAt x j).state = 0 := by simpa using e
        (repeat (first | refine lw_pure hT rfl ?_ | refine cw_seq ?_ | refine cw_region ?_))
        refine lw_index hT rfl rfl rfl j rfl hj ?_
        (repeat (refine lw_pure hT rfl ?_))
        refine lw_load hT rfl rfl (v := .string (papAt x j).holder) (hrj17 3 _ rfl) ?_
        skip
        have hsy := surr_yes (x := x1) hj (bill := bill) hs1 (by rw [hp1j]; exact hj0) (by rw [hb1, hp1j]; exact until_max hE (List.mem_of_getElem? (papAt_get h3 hj)))
        rw [hp1j] at hsy
        refine lw_call hT rfl rfl (reg_Surrender hC hG1.nd (hG1.small (by omega)) (surrA bill (papAt x j).holder 1048576 j) rfl) ?_
        rintro _ w18 ⟨⟨u18, rfl, _, _⟩, hm18⟩
        obtain ⟨hac18, hat18⟩ := act_done (show (1 : Int) ≤ 2 ∧ (2 : Int) ≤ 5 from ⟨by decide, by decide⟩) (show r1.at? (surrA bill (papAt x j).holder 1048576 j).bill = some x1 from hat1) hsy
        rw [hac18]
        replace hat18 : (doA r1 (surrA bill (papAt x j).holder 1048576 j)).at? bill = some (x1.after (surrA bill (papAt x j).holder 1048576 j)) := hat18
        rw [surr_after _ _ _ _ hj] at hat18
        have hG2 : Good (l.length + 1 + 1) (doA r1 (surrA bill (papAt x j).holder 1048576 j)) := good_do hG1 (show (0 : Int) ≤ 2 ∧ (2 : Int) ≤ 5 from ⟨by decide, by decide⟩) zeroB_ok (Nat.zero_le _)
        obtain ⟨r2, hr2e⟩ : ∃ r2, r2 = doA r1 (surrA bill (papAt x j).holder 1048576 j) := ⟨_, rfl⟩
        rw [← hr2e] at hat18 hG2 hm18
        obtain ⟨x2, hx2e⟩ : ∃ x2 : EntD, x2 = { x1 with state := 1, ps := onIx [j] (stateP 1) (x1.ps.map (stateP 2)) } := ⟨_, rfl⟩
        rw [← hx2e] at hat18
        have hmap : papAt { x1 with ps := x1.ps.map (stateP 2) } i = stateP 2 (papAt x1 i) := papAt_of (by simp [papAt_get h31 hi])
        have h32 : x2.ps.length = 3 := by rw [hx2e]; show (onIx _ _ _).length = 3; rw [onIx_len, List.length_map]; exact h31
        have hp2i : (papAt x2 i).state = 2 := by
          rw [papAt_onIx (x := { x1 with ps := x1.ps.map (stateP 2) }) (l := [j]) (f := stateP 1) (by simp [h31]) (by rw [hx2e]) hi, hmap]
          simp [Ne.symm hij, stateP]
        obtain ⟨gc18, hC18, hfc18⟩ := hm18.is
        have hR18 := hR17.frame hm18.ext (fun b hb h => by have := hCn b h; have := hfl16 b hb; omega)
        have hx018 : Ex w w18 := hx017.up_new hm18.ext (fun b hb => by have := hCn b hb; omega)
        (repeat (first | refine lw_pure hT rfl ?_ | refine lw_nil ?_ | refine cw_seq ?_ | refine cw_region ?_ | refine qw_then ?_))
        refine lw_guard rfl (fun e => absurd e (by decide)) (fun _ => ?_)
        (repeat (first | refine lw_pure hT rfl ?_ | (refine lw_gon_f rfl ?_ ?_; focus (first | with_reducible rfl | with_reducible exact Bool.not_false | with_reducible exact Bool.not_true))))
        refine lw_call hT rfl rfl (reg_Originals hC18 bill) ?_
        rintro u19 w19 ⟨hu19, hx19⟩
        obtain ⟨g19, c19, rfl, _, hrow19⟩ := origs_row hat18 h32 hu19
        (repeat (first | refine lw_pure hT rfl ?_ | (refine lw_gon_f rfl ?_ ?_; focus (first | with_reducible rfl | with_reducible exact Bool.not_false | with_reducible exact Bool.not_true))))
        refine lw_index hT rfl rfl rfl i rfl hi ?_
        (repeat (first | refine lw_pure hT rfl ?_ | (refine lw_gon_f rfl ?_ ?_; focus (first | with_reducible rfl | with_reducible exact Bool.not_false | with_reducible exact Bool.not_true))))
        refine lw_load hT rfl rfl (v := .int .i64 2) (by have := (hrow19 i hi) 2 _ rfl; rw [hp2i] at this; exact this) ?_
        (repeat (first | refine lw_pure hT rfl ?_ | (refine lw_gon_f rfl ?_ ?_; focus (first | with_reducible rfl | with_reducible exact Bool.not_false | with_reducible exact Bool.not_true))))
        refine lw_guard rfl (fun e => absurd e (by decide)) (fun _ => ?_)
        (repeat (first | refine lw_pure hT rfl ?_ | (refine lw_gon_f rfl ?_ ?_; focus (first | with_reducible rfl | with_reducible exact Bool.not_false | with_reducible exact Bool.not_true))))
        have hno : actC r2 (replA bill q.holder 1048576 i) = 9 := by
          rw [(at_step (show (1 : Int) ≤ 4 ∧ (4 : Int) ≤ 5 from ⟨by decide, by decide⟩) (show r2.at? (replA bill q.holder 1048576 i).bill = some x2 from hat18)).1]
          exact repl_no hi (by rw [hx2e]; show (1 : Int) ≠ 0; decide)
        refine lw_call hT rfl rfl (reg_Replace (hC18.ex hx19) hG2.nd (replA bill q.holder 1048576 i) rfl) ?_
        rintro _ w20 ⟨rfl, hm20⟩
        rw [hno]
        have hfc : ∀ b ∈ foot pc mc gc18, w16.heap.size ≤ b := fun b hb => by
          rcases hfc18 b hb with h | h
          · exact hCn b h
          · have := hx17.size; omega
        (repeat (first | refine lw_pure hT rfl ?_ | refine lw_nil ?_ | refine qw_then ?_ | (refine lw_gon_f rfl ?_ ?_; focus (first | with_reducible rfl | with_reducible exact Bool.not_false | with_reducible exact Bool.not_true))))
        refine cw_cond rfl (fun e => absurd e (by decide)) (fun _ => ?_)
        (repeat (refine cw_skip ?_))
        exact qw_cut () (by repeat (first | exact trivial | refine ⟨rfl, ?_⟩)) ⟨gk13, (hR18.ex hx19).frame hm20.ext (fun b hb h => by have := hfc b h; have := hfl16 b hb; omega), hf14, (hx018.trans hx19).up_new hm20.ext (fun b hb => by have := hfc b hb; omega)⟩
      · (repeat (refine cw_skip ?_))
        exact qw_cut () (by repeat (first | exact trivial | refine ⟨rfl, ?_⟩)) ⟨gk13, hR17, hf14, hx017⟩
    · rintro _ w20 ⟨gk, hR20, hf20, hx020⟩
      unfold pB
      (repeat (first | refine lw_pure hT rfl ?_ | refine cw_seq ?_ | refine cw_region ?_ | refine qw_then ?_))
      refine lw_call hT rfl rfl (reg_Chain hR20 (hG1.small (by omega)) bill i) ?_
      rintro u21 w21 ⟨hu21, hx21⟩
      rw [chain_of hat1 h31 hi, hp1i] at hu21
      have hfl20 : ∀ b ∈ foot p m gk, b < w20.heap.size := fun b hb => hR20.foot_lt hb
      (repeat (first | refine lw_pure hT rfl ?_ | refine lw_nil ?_ | refine cw_seq ?_ | refine cw_region ?_ | refine qw_then ?_))
      obtain ⟨hac22, hat22⟩ := act_done (show (1 : Int) ≤ 4 ∧ (4 : Int) ≤ 5 from ⟨by decide, by decide⟩) (show r1.at? (replA bill q.holder 1048576 i).bill = some x1 from hat1) (repl_yes hi hs1 hlost hold1 (by rw [hb1, hp1i]; exact (until_max hE hqm : untilD x.bill q ≤ 1048576)))
      replace hat22 : (doA r1 (replA bill q.holder 1048576 i)).at? bill = some (x1.after (replA bill q.holder 1048576 i)) := hat22
      rw [repl_after _ _ _ _ hi] at hat22
      refine lw_call hT rfl rfl (reg_Replace (hR20.ex hx21) hG1.nd (replA bill q.holder 1048576 i) rfl) ?_
      rintro _ w22 ⟨rfl, hm22⟩
      rw [hac22]
      have hG3 : Good (l.length + 1 + 1) (doA r1 (replA bill q.holder 1048576 i)) := good_do hG1 (show (0 : Int) ≤ 4 ∧ (4 : Int) ≤ 5 from ⟨by decide, by decide⟩) zeroB_ok (Nat.zero_le _)
      obtain ⟨r3, hr3e⟩ : ∃ r3, r3 = doA r1 (replA bill q.holder 1048576 i) := ⟨_, rfl⟩
      rw [← hr3e] at hat22 hG3 hm22
      obtain ⟨x3, hx3e⟩ : ∃ x3 : EntD, x3 = { x1 with ps := onIx [i] (stateP 0) x1.ps } := ⟨_, rfl⟩
      rw [← hx3e] at hat22
      have h33 : x3.ps.length = 3 := by rw [hx3e]; show (onIx _ _ _).length = 3; rw [onIx_len]; exact h31
      have hs3 : x3.state = 0 := by rw [hx3e]; exact hs1
      have hp3i : papAt x3 i = stateP 0 (stateP 3 q) := by rw [papAt_onIx h31 (by rw [hx3e]) hi, hp1i]; simp
      have hst3 : (papAt x3 i).state = 0 := by rw [hp3i]; rfl
      obtain ⟨g22, hR22, hf22⟩ := hm22.is
      have hx022 : Ex w w22 := (hx020.trans hx21).up_new hm22.ext hf20
      have hu22 := own_ext hu21 hm22.ext (fun k hk h => by have := own_base hu21 hk; have := hfl20 _ h; omega)
      (repeat (first | refine lw_pure hT rfl ?_ | refine lw_nil ?_ | refine qw_then ?_))
      refine cw_cond rfl (fun e => absurd e (by decide)) (fun _ => ?_)
      (repeat (first | refine lw_pure hT rfl ?_ | refine cw_seq ?_ | refine cw_region ?_ | refine qw_then ?_ | refine cw_skip ?_))
      refine lw_call hT rfl rfl (reg_Holder hR22 bill i) ?_
      rintro _ w23 ⟨rfl, hx23⟩
      have hol3 : r3.holderOf bill (i : Nat) = some q.holder := by rw [holder_of hat22 h33 hi hs3 (.inl hst3), hp3i]; rfl
      rw [hol3]
      simp only [Option.getD_some, Option.isSome_some]
      (repeat (first | refine lw_pure hT rfl ?_ | refine lw_nil ?_ | refine cw_seq ?_ | refine cw_region ?_ | refine qw_then ?_ | (refine lw_gon_t rfl ?_ ?_; focus (first | with_reducible rfl | with_reducible exact Bool.not_false | with_reducible exact Bool.not_true))))
      refine lw_guard rfl (fun _ => ?_) (fun e => absurd rfl (of_decide_eq_false e))
      (repeat (first | refine lw_pure hT rfl ?_ | (refine lw_gon_t rfl ?_ ?_; focus (first | with_reducible rfl | with_reducible exact Bool.not_false | with_reducible exact Bool.not_true))))
      refine lw_call hT rfl rfl (reg_Originals (hR22.ex hx23) bill) ?_
      rintro u24 w24 ⟨hu24, hx24⟩
      obtain ⟨g24, c24, rfl, _, hrow24⟩ := origs_row hat22 h33 hu24
      (repeat (first | refine lw_pure hT rfl ?_ | (refine lw_gon_t rfl ?_ ?_; focus (first | with_reducible rfl | with_reducible exact Bool.not_false | with_reducible exact Bool.not_true))))
      refine lw_index hT rfl rfl rfl i rfl hi ?_
      (repeat (first | refine lw_pure hT rfl ?_ | (refine lw_gon_t rfl ?_ ?_; focus (first | with_reducible rfl | with_reducible exact Bool.not_false | with_reducible exact Bool.not_true))))
      refine lw_load hT rfl rfl (v := .int .i64 0) (by have := (hrow24 i hi) 2 _ rfl; rw [hst3] at this; exact this) ?_
      (repeat (first | refine lw_pure hT rfl ?_ | (refine lw_gon_t rfl ?_ ?_; focus (first | with_reducible rfl | with_reducible exact Bool.not_false | with_reducible exact Bool.not_true))))
      refine lw_guard rfl (fun _ => ?_) (fun e => absurd e (by decide))
      (repeat (first | refine lw_pure hT rfl ?_ | (refine lw_gon_t rfl ?_ ?_; focus (first | with_reducible rfl | with_reducible exact Bool.not_false | with_reducible exact Bool.not_true))))
      refine lw_call hT rfl rfl (reg_Chain ((hR22.ex hx23).ex hx24) (hG3.small (by omega)) bill i) ?_
      rintro u25 w25 ⟨hu25, hx25⟩
      rw [chain_of hat22 h33 hi, hp3i] at hu25
      have hc25 : ChainOk w25 u25 q.chain := own_mono hu25 (Nat.zero_le _)
      have hc22 : ChainOk w25 u21 q.chain := own_mono (own_ex (own_ex (own_ex hu22 hx23) hx24) hx25) (Nat.zero_le _)
      (repeat (first | refine lw_pure hT rfl ?_ | (refine lw_gon_t rfl ?_ ?_; focus (first | with_reducible rfl | with_reducible exact Bool.not_false | with_reducible exact Bool.not_true))))
      refine lw_call hT rfl rfl (r23_Chains w25 (hc25.sl (A := fun _ => True) fun _ _ => trivial) (hc22.sl (A := fun _ => True) fun _ _ => trivial)) ?_
      rintro _ w26 ⟨rfl, hx26⟩
      (repeat (first | refine lw_pure hT rfl ?_ | refine lw_nil ?_ | refine qw_then ?_ | refine cw_ret ?_))
      exact qw_ret rfl ⟨rfl, (((hx022.trans hx23).trans hx24).trans hx25).trans hx26⟩
end Go.Proofs.Ytfbjpfgglgffgaa
