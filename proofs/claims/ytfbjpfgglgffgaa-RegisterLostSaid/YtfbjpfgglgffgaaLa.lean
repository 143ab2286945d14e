/- supercargolaw23.RegisterOnce, walked: it answers true, whatever acts it is given. -/
import Derived.Test.YtfbjpfgglgffgaaGf
import Derived.Test.YtfbjpfgglgffgaaRe
import Derived.Test.YtfbjpfgglgffgaaRg
set_option linter.unusedVariables false
set_option linter.unusedSimpArgs false
set_option linter.unusedSectionVars false
set_option linter.unnecessarySimpa false
namespace Go.Proofs.Ytfbjpfgglgffgaa
open Go Go.SK

theorem Mut.step {w w' w'' : World} {p m : Nat} {gs gs' : List GhostE} {r'' : RegD} (hf : ∀ b ∈ foot p m gs', b ∈ foot p m gs ∨ w.heap.size ≤ b) (hx : Ext (· ∈ foot p m gs) w w') (h : Mut w' p m gs' r'' w'') : Mut w p m gs r'' w'' := by
  obtain ⟨gs'', h1, h2⟩ := h.is
  refine ⟨⟨gs'', h1, fun b hb => ?_⟩, hx.trans' h.ext (fun _ _ h => h) (fun i hi g => ?_)⟩
  · rcases h2 b hb with h | h
    · exact hf b h
    · exact .inr (by have := hx.size; omega)
  · rcases hf i g with h | h
    · exact h
    · omega
theorem Mut.ex {w w' w'' : World} {p m : Nat} {gs : List GhostE} {r : RegD} (h : Mut w p m gs r w') (hx : Ex w' w'') : Mut w p m gs r w'' := by
  obtain ⟨gs', h1, h2⟩ := h.is
  exact ⟨⟨gs', h1.ex hx, h2⟩, h.ext.up hx⟩
def withBill (a : ActD) (n : ByteArray) : ActD := { a with bill := n }
set_option maxHeartbeats 4000000 in
theorem l23_Once {A1 A2 : Nat → Prop} {w : World} {v1 v2 : Value} {l l2 : List ActD} (h1 : ActsAt A1 w v1 l) (h2 : ActsAt A2 w v2 l2) (bill : ByteArray) (hbill : bill.size ≤ maxLen) :
    Ret Try.prog 3 [v1, v2, .string bill] w fun v w' => v = .bool true ∧ Ex w w' := by
  obtain ⟨p1, cap1, rfl, _, _⟩ := h1.is
  obtain ⟨p2, cap2, rfl, hm2, hrow2⟩ := h2.is
  unfold maxLen at hm2
  have hbill' := hbill
  unfold maxLen at hbill'
  refine ret_of Try.func3 Try.ntmps3 rfl rfl rfl ?_
  (repeat (first | refine lw_pure hT rfl ?_ | refine lw_nil ?_ | refine cw_seq ?_ | refine cw_region ?_ | refine qw_then ?_))
  refine lw_call hT rfl rfl (l23_awake w) ?_
  rintro _ w1 ⟨rfl, hx1⟩
  (repeat (first | refine lw_pure hT rfl ?_ | refine lw_nil ?_ | refine cw_seq ?_ | refine cw_region ?_ | refine qw_then ?_ | refine cw_skip ?_ | (refine cw_cond_f rfl ?_ ?_; focus (first | with_reducible rfl | with_reducible exact Bool.not_false | with_reducible exact Bool.not_true))))
  refine lw_call hT rfl rfl (l23_right (h1.ex hx1)) ?_
  rintro _ w2 ⟨⟨b1, rfl, hr1⟩, hx2⟩
  (repeat (refine lw_pure hT rfl ?_))
  have hx02 := hx1.trans hx2
  refine lw_guard rfl (fun e => ?_) (fun e => ?_)
  · (repeat (first | refine lw_pure hT rfl ?_ | refine lw_nil ?_ | refine cw_seq ?_ | refine cw_region ?_ | refine qw_then ?_ | refine cw_ret ?_ | refine qw_then_ret ?_ | (refine lw_goff_t rfl ?_ ?_; focus (first | with_reducible rfl | with_reducible exact Bool.not_false | with_reducible exact Bool.not_true)) | (refine cw_cond_t rfl ?_ ?_; focus (first | with_reducible rfl | with_reducible exact Bool.not_false | with_reducible exact Bool.not_true))))
    exact qw_ret rfl ⟨rfl, hx02⟩
  replace hr1 := hr1 (by simpa using e)
  (repeat (first | refine lw_pure hT rfl ?_ | (refine lw_gon_f rfl ?_ ?_; focus (first | with_reducible rfl | with_reducible exact Bool.not_false | with_reducible exact Bool.not_true))))
  refine lw_call hT rfl rfl (l23_right (h2.ex hx02)) ?_
  rintro _ w3 ⟨⟨b2, rfl, hr2⟩, hx3⟩
  have hx03 := hx02.trans hx3
  (repeat (first | refine lw_pure hT rfl ?_ | (refine lw_gon_f rfl ?_ ?_; focus (first | with_reducible rfl | with_reducible exact Bool.not_false | with_reducible exact Bool.not_true))))
  refine lw_guard rfl (fun e => ?_) (fun e => ?_)
  · (repeat (first | refine lw_pure hT rfl ?_ | refine lw_nil ?_ | refine cw_seq ?_ | refine cw_region ?_ | refine qw_then ?_ | refine cw_ret ?_ | refine qw_then_ret ?_ | (refine lw_goff_t rfl ?_ ?_; focus (first | with_reducible rfl | with_reducible exact Bool.not_false | with_reducible exact Bool.not_true)) | (refine cw_cond_t rfl ?_ ?_; focus (first | with_reducible rfl | with_reducible exact Bool.not_false | with_reducible exact Bool.not_true))))
    exact qw_ret rfl ⟨rfl, hx03⟩
  replace hr2 := hr2 (by simpa using e)
  (repeat (first | refine lw_pure hT rfl ?_ | refine lw_nil ?_ | refine qw_then ?_ | (refine lw_gon_f rfl ?_ ?_; focus (first | with_reducible rfl | with_reducible exact Bool.not_false | with_reducible exact Bool.not_true))))
  refine cw_cond rfl (fun e => ?_) (fun e => ?_)
  · (repeat (first | refine lw_pure hT rfl ?_ | refine lw_nil ?_ | refine cw_seq ?_ | refine cw_region ?_ | refine qw_then ?_ | refine cw_ret ?_ | refine qw_then_ret ?_))
    exact qw_ret rfl ⟨rfl, hx03⟩
  (repeat (first | refine lw_pure hT rfl ?_ | refine cw_seq ?_ | refine cw_region ?_ | refine qw_then ?_ | refine cw_skip ?_))
  refine lw_call hT rfl rfl (l23_play (h1.ex hx03) hr1) ?_
  rintro _ w4 ⟨⟨p, m, gs, vL, fgs, A', rfl, hP⟩, hx4⟩
  have hx04 := hx03.trans hx4
  have hgood := good_run (good_new ⟨#[99]⟩) h1.ok hr1.2
  rw [Nat.zero_add] at hgood
  replace hgood : Good l.length (runA regC l) := hgood
  have hlen := hr1.1.1
  have hlen2 := hr2.1.1
  obtain ⟨r0, hr0⟩ : ∃ r0, r0 = runA regC l := ⟨_, rfl⟩
  rw [← hr0] at hgood hP
  have hnew : ∀ b ∈ foot p m gs, w.heap.size ≤ b := fun b hb => by have := hP.new b hb; have := hx03.size; omega
  (repeat (refine lw_pure hT rfl ?_))
  refine lw_alloc z28 ?_
  intro b8 w5 hbb8 hb8 hx5 hs5
  (repeat (refine lw_pure hT rfl ?_))
  refine lw_store_agg hT rfl rfl rfl rfl (by intro v hv; simp [encR] at hv; rcases hv with rfl | rfl <;> first | rfl | exact Sl.one hP.frep.sl) hb8 (show (2 : Nat) ≤ 2 by decide) ?_
  intro w6 hb86 hx6 hs6
  have hx46 : Ex w4 w6 := hx5.up_new hx6 (fun i h => by omega)
  have hx06 := hx04.trans hx46
  have hR6 := hP.rep.ex hx46
  (repeat (first | refine lw_pure hT rfl ?_ | refine lw_nil ?_ | refine cw_seq ?_ | refine cw_region ?_ | refine qw_then ?_ | refine cw_skip ?_ | (refine cw_cond_f rfl ?_ ?_; focus (first | with_reducible rfl | with_reducible exact Bool.not_false | with_reducible exact Bool.not_true)) | refine lw_eqp_some hT rfl rfl ?_))
  refine lw_call hT rfl rfl (reg_State hR6 bill) ?_
  rintro _ _ ⟨rfl, rfl⟩
  rcases hgood.states bill with hst | ⟨x, hat, hE, hst, hxs⟩
  · rcases hst with hst | hst <;> rw [hst]
    · (repeat (first | refine lw_pure hT rfl ?_ | refine lw_nil ?_ | refine cw_seq ?_ | refine cw_region ?_ | refine qw_then ?_))
      refine lw_guard rfl (fun _ => ?_) (fun e => absurd e (by decide))
      (repeat (first | refine lw_pure hT rfl ?_ | refine lw_nil ?_ | refine qw_then ?_ | (refine lw_gon_t rfl ?_ ?_; focus (first | with_reducible rfl | with_reducible exact Bool.not_false | with_reducible exact Bool.not_true))))
      refine cw_cond rfl (fun _ => ?_) (fun e => absurd e (by decide))
      (repeat (first | refine lw_pure hT rfl ?_ | refine cw_seq ?_ | refine cw_region ?_))
      refine lw_guard rfl (fun _ => ?_) (fun e => absurd e (by decide))
      (repeat (first | refine lw_pure hT rfl ?_ | refine lw_nil ?_ | refine qw_then ?_ | refine cw_ret ?_ | refine qw_then_ret ?_ | (refine lw_goff_t rfl ?_ ?_; focus (first | with_reducible rfl | with_reducible exact Bool.not_false | with_reducible exact Bool.not_true))))
      exact qw_ret rfl ⟨rfl, hx06⟩
    · (repeat (first | refine lw_pure hT rfl ?_ | refine lw_nil ?_ | refine cw_seq ?_ | refine cw_region ?_ | refine qw_then ?_))
      refine lw_guard rfl (fun _ => ?_) (fun e => absurd e (by decide))
      (repeat (first | refine lw_pure hT rfl ?_ | refine lw_nil ?_ | refine qw_then ?_ | (refine lw_gon_t rfl ?_ ?_; focus (first | with_reducible rfl | with_reducible exact Bool.not_false | with_reducible exact Bool.not_true))))
      refine cw_cond rfl (fun _ => ?_) (fun e => absurd e (by decide))
      (repeat (first | refine lw_pure hT rfl ?_ | refine cw_seq ?_ | refine cw_region ?_))
      refine lw_guard rfl (fun e => absurd e (by decide)) (fun _ => ?_)
      (repeat (first | refine lw_pure hT rfl ?_ | refine lw_nil ?_ | refine qw_then ?_ | refine cw_ret ?_ | refine qw_then_ret ?_ | (refine lw_gon_f rfl ?_ ?_; focus (first | with_reducible rfl | with_reducible exact Bool.not_false | with_reducible exact Bool.not_true))))
      exact qw_ret rfl ⟨rfl, hx06⟩
  · have hx14 : x.state = 1 ∨ x.state = 4 := by rcases hxs with h | h <;> simp [h.1]
    have hx0 : x.state ≠ 0 := by omega
    rw [hst]
    refine lw_pure hT rfl ?_
    refine lw_nil ?_
    refine qw_then ?_
    refine cw_seq ?_
    refine cw_then_cut (α := Unit) (fun _ => [(1, .slice p2 l2.length cap2), (2, .string bill), (7, pB p), (9, .int .i64 x.state)]) (fun _ w' => w6 = w') ?_ ?_
    · unfold pB
      (repeat (first | refine lw_pure hT rfl ?_ | refine cw_seq ?_ | refine cw_region ?_))
      refine lw_guard rfl (fun e => ?_) (fun e => ?_)
      · (repeat (first | refine lw_pure hT rfl ?_ | refine lw_nil ?_ | refine qw_then ?_ | (refine lw_gon_t rfl ?_ ?_; focus (first | with_reducible rfl | with_reducible exact Bool.not_false | with_reducible exact Bool.not_true))))
        refine cw_cond rfl (fun e' => ?_) (fun _ => ?_)
        · exfalso; simp at e e'; omega
        (repeat (refine cw_skip ?_))
        exact qw_cut () (by repeat (first | exact trivial | refine ⟨rfl, ?_⟩)) rfl
      · (repeat (first | refine lw_pure hT rfl ?_ | refine lw_nil ?_ | refine qw_then ?_ | refine cw_skip ?_ | (refine lw_goff_f rfl ?_ ?_; focus (first | with_reducible rfl | with_reducible exact Bool.not_false | with_reducible exact Bool.not_true)) | (refine cw_cond_f rfl ?_ ?_; focus (first | with_reducible rfl | with_reducible exact Bool.not_false | with_reducible exact Bool.not_true))))
        exact qw_cut () (by repeat (first | exact trivial | refine ⟨rfl, ?_⟩)) rfl
    rintro _ _ rfl
    unfold pB
    (repeat (first | refine lw_pure hT rfl ?_ | refine cw_seq ?_ | refine cw_region ?_ | refine qw_then ?_))
    refine lw_call hT rfl rfl (reg_Get hR6 (hgood.small (by omega)) bill) ?_
    rintro _ w7 ⟨hget, hx7⟩
    unfold GetR at hget
    rw [hat] at hget
    obtain ⟨ub, up, rfl, hub, hup⟩ := hget
    (repeat (refine lw_pure hT rfl ?_))
    refine lw_alloc z34 ?_
    intro b10 w8 hbb10 hb10 hx8 hs8
    skip
    refine lw_store_agg hT rfl rfl rfl rfl (encB_one (A := fun _ => True) (w := w) (own_one hub) (own_one hup)) hb10 (show (9 : Nat) ≤ 9 by decide) ?_
    intro w9 hb109 hx9 hs9
    replace hb109 : Blk w9 b10 (encB x.bill ub up) 34 := hb109
    have hx79 : Ex w7 w9 := hx8.up_new hx9 (fun i h => by omega)
    have hx69 := hx7.trans hx79
    have hx09 := hx06.trans hx69
    have hR9 := hR6.ex hx69
    have hfl6 : ∀ b ∈ foot p m gs, b < w6.heap.size := fun b hb => hR6.foot_lt hb
    have hl7 := hx7.size
    have hb10l := hb109.lt
    have hub9 := own_ex hub hx79
    have hsl9 : SlS (fun b => w6.heap.size ≤ b) w9 ub x.bill.boxes := sls_own hub9 fun b hb => (own_base hub9 hb).1
    have hl9 := hx09.size
    (repeat (first | refine lw_pure hT rfl ?_ | refine lw_nil ?_ | refine cw_seq ?_ | refine cw_region ?_ | refine qw_then ?_ | refine cw_block ?_))
    -- the further acts
    refine cw_loop (fun i : Nat => [(1, .slice p2 l2.length cap2), (2, .string bill), (7, pB p), (9, .int .i64 x.state), (10, pB b10), (12, .int .i64 (i : Nat))])
      (fun i w' => i ≤ l2.length ∧ ∃ r', Mut w9 p m gs r' w' ∧ Good (l.length + i) r' ∧ r'.at? bill = some x) (fun i => l2.length - i) 0 (by repeat (first | exact trivial | refine ⟨rfl, ?_⟩)) ⟨Nat.zero_le _, r0, Mut.of_ex hR9 (Ext.refl _ _), hgood, hat⟩ ?_
    rintro i w10 ⟨hi, r', hM, hG, hat'⟩
    obtain ⟨gs', hR', hf'⟩ := hM.is
    have hx010 : Ex w w10 := hx09.up_new hM.ext (fun b hb => hnew b hb)
    unfold pB
    (repeat (first | refine lw_pure hT rfl ?_ | refine lw_nil ?_ | refine cw_seq ?_ | refine cw_region ?_ | refine qw_then ?_))
    refine cw_cond rfl (fun e => ?_) (fun e => ?_)
    · have hlt : i < l2.length := by have := of_decide_eq_true e; omega
      obtain ⟨b, o, vb, vp, rfl, hbA, hrd, hact⟩ := hrow2 i hlt
      have hk5 := hr2.2 _ (List.getElem_mem hlt)
      generalize ha : l2[i] = a0 at hrd hact hk5
      have hact10 := hact.ex hx010
      (repeat (first | refine lw_pure hT rfl ?_ | refine cw_seq ?_ | refine cw_region ?_ | refine qw_then ?_ | refine cw_skip ?_ | refine cw_block ?_))
      refine lw_index hT rfl rfl rfl i rfl hlt ?_
      skip
      refine lw_load_agg hT rfl rfl rfl (vs := encAct a0 vb vp) (hrd.ex hx010) ?_
      skip
      refine lw_alloc z38 ?_
      intro b13 w11 hbb13 hb13 hx11 hs11
      skip
      refine lw_store_agg hT rfl rfl rfl rfl (encAct_one hact10) hb13 (show (15 : Nat) ≤ 15 by decide) ?_
      intro w12 hb1312 hx12 hs12
      replace hb1312 : Blk w12 b13 (encAct a0 vb vp) 38 := hb1312
      (repeat (first | refine lw_pure hT rfl ?_ | refine lw_nil ?_ | refine cw_seq ?_ | refine cw_region ?_ | refine qw_then ?_))
      refine lw_store (size := 1) hT rfl rfl rfl rfl hb1312 (show (3 : Nat) < 15 by decide) ?_
      intro w13 hb1313 hx13 hs13
      obtain ⟨a, hae⟩ : ∃ a, a = withBill a0 bill := ⟨_, rfl⟩
      replace hb1313 : Blk w13 b13 (encAct a vb vp) 38 := by rw [hae]; exact hb1313
      have hx1013 : Ex w10 w13 := (hx11.up_new hx12 (fun i h => by omega)).up_new hx13 (fun i h => by omega)
      have hR13 := hR'.ex hx1013
      have hM13 := hM.ex hx1013
      have hx013 := hx010.trans hx1013
      have hk : 0 ≤ a.kind ∧ a.kind ≤ 5 := by rw [hae]; exact hk5
      have ebill : a.bill = bill := by rw [hae]; rfl
      have hact13 : ActAt A2 w13 a vb vp := by rw [hae]; exact ⟨hact.boxes.ex hx013, hact.parents.ex hx013, hact.cap, hbill, hact.ok.by_, hact.ok.to_, hact.ok.b⟩
      (repeat (first | refine lw_pure hT rfl ?_ | refine lw_nil ?_ | refine cw_seq ?_ | refine cw_region ?_ | refine qw_then ?_))
      refine lw_load hT rfl rfl (v := .int .i64 a.kind) (hb1313.cell 0) ?_
      (repeat (first | refine lw_pure hT rfl ?_ | refine lw_nil ?_ | refine qw_then ?_))
      refine cw_cond rfl (fun e0 => ?_) (fun e0 => ?_)
      · (repeat (first | refine lw_pure hT rfl ?_ | refine cw_seq ?_ | refine cw_region ?_))
        refine lw_load_agg hT rfl rfl rfl (vs := encB a.b vb vp) (hb1313.rd 6 9) ?_
        (repeat (refine lw_pure hT rfl ?_))
        refine lw_load hT rfl rfl (v := .string a.to_) (hb1313.cell 5) ?_
        skip
        refine lw_call hT rfl rfl (reg_Issue hR13 hact13.boxes hact13.parents hact13.ok.b a.to_ hact13.ok.to_) ?_
        rintro _ w14 ⟨rfl, hm⟩
        (repeat (first | (refine lw_add rfl rfl ?_ ?_ ?_; iterate 2 omega) | refine lw_pure hT rfl ?_ | refine lw_nil ?_ | refine cw_region ?_ | refine qw_then ?_ | refine cw_exit ?_ | refine qw_block_exit ?_ | refine qw_then_exit ?_))
        refine qw_round (i + 1) (by repeat (first | exact trivial | refine ⟨rfl, ?_⟩)) ⟨hlt, _, Mut.step hf' hM13.ext hm, good_issue hG hact13.ok.b hact13.ok.to_, at_issue hat'⟩ (by omega)
      · have hk1 : 1 ≤ a.kind ∧ a.kind ≤ 5 := by have := of_decide_eq_false e0; omega
        obtain ⟨hne, hsame⟩ := act_ended hk1 (ebill ▸ hat') hx0
        refine cw_skip ?_
        refine qw_then ?_
        refine cw_seq ?_
        refine cw_region ?_
        refine lw_pure hT rfl ?_
        refine lw_nil ?_
        refine qw_then ?_
        refine cw_seq ?_
        refine cw_then_cut (α := Unit) (fun _ => [(1, .slice (some ⟨b, o, none⟩) l2.length cap2), (2, .string bill), (7, pB p), (9, .int .i64 x.state), (10, pB b10), (12, .int .i64 (i : Nat)), (14, .int .i64 (actC r' a))])
          (fun _ w' => Mut w13 p m gs' (doA r' a) w') ?_ ?_
        · unfold pB
          have hGs := hG.small (by omega)
          have hlbill : ∀ (K : Prop), K → K := fun _ h => h
          (repeat (first | refine lw_pure hT rfl ?_ | refine cw_seq ?_ | refine cw_region ?_))
          refine lw_load hT rfl rfl (v := .int .i64 a.kind) (hb1313.cell 0) ?_
          (repeat (first | refine lw_pure hT rfl ?_ | refine lw_nil ?_ | refine cw_seq ?_ | refine cw_region ?_ | refine qw_then ?_ | refine cw_block ?_))
          refine cw_cond rfl (fun e1 => ?_) (fun e1 => ?_)
          · have e1 : a.kind = 1 := by simpa using e1
            (repeat (first | refine lw_pure hT rfl ?_ | refine cw_region ?_))
            refine lw_load hT rfl rfl (v := .int .i64 a.index) (hb1313.cell 1) ?_
            (repeat (refine lw_pure hT rfl ?_))
            refine lw_load hT rfl rfl (v := .string a.by_) (hb1313.cell 4) ?_
            (repeat (refine lw_pure hT rfl ?_))
            refine lw_load hT rfl rfl (v := .string a.to_) (hb1313.cell 5) ?_
            (repeat (refine lw_pure hT rfl ?_))
            refine lw_load hT rfl rfl (v := .int .i64 a.day) (hb1313.cell 2) ?_
            skip
            have hcall := reg_Endorse hR13 hG.nd hGs hG.inv a e1 hact13.ok.to_
            rw [ebill] at hcall
            refine lw_call hT rfl rfl hcall ?_
            rintro _ w14 ⟨rfl, hm⟩
            (repeat (first | refine lw_pure hT rfl ?_ | refine lw_nil ?_ | refine qw_block ?_))
            exact qw_cut () (by repeat (first | exact trivial | refine ⟨rfl, ?_⟩)) hm
          (repeat (first | refine lw_pure hT rfl ?_ | refine lw_nil ?_ | refine cw_seq ?_ | refine cw_region ?_ | refine qw_then ?_))
          refine cw_cond rfl (fun e2 => ?_) (fun e2 => ?_)
          · have e2 : a.kind = 2 := by simpa using e2
            (repeat (first | refine lw_pure hT rfl ?_ | refine cw_region ?_))
            refine lw_load hT rfl rfl (v := .int .i64 a.index) (hb1313.cell 1) ?_
            (repeat (refine lw_pure hT rfl ?_))
            refine lw_load hT rfl rfl (v := .string a.by_) (hb1313.cell 4) ?_
            (repeat (refine lw_pure hT rfl ?_))
            refine lw_load hT rfl rfl (v := .int .i64 a.day) (hb1313.cell 2) ?_
            skip
            have hcall := reg_Surrender hR13 hG.nd hGs a e2
            rw [ebill] at hcall
            refine lw_call hT rfl rfl hcall ?_
            rintro _ w14 ⟨⟨u, rfl, _, _⟩, hm⟩
            (repeat (first | refine lw_pure hT rfl ?_ | refine lw_nil ?_ | refine qw_block ?_))
            exact qw_cut () (by repeat (first | exact trivial | refine ⟨rfl, ?_⟩)) hm
          (repeat (first | refine lw_pure hT rfl ?_ | refine lw_nil ?_ | refine cw_seq ?_ | refine cw_region ?_ | refine qw_then ?_))
          refine cw_cond rfl (fun e3 => ?_) (fun e3 => ?_)
          · have e3 : a.kind = 3 := by simpa using e3
            (repeat (first | refine lw_pure hT rfl ?_ | refine cw_region ?_))
            refine lw_load hT rfl rfl (v := .int .i64 a.index) (hb1313.cell 1) ?_
            (repeat (refine lw_pure hT rfl ?_))
            refine lw_load hT rfl rfl (v := .string a.by_) (hb1313.cell 4) ?_
            skip
            have hcall := reg_Lose hR13 hG.nd a e3
            rw [ebill] at hcall
            refine lw_call hT rfl rfl hcall ?_
            rintro _ w14 ⟨rfl, hm⟩
            (repeat (first | refine lw_pure hT rfl ?_ | refine lw_nil ?_ | refine qw_block ?_))
            exact qw_cut () (by repeat (first | exact trivial | refine ⟨rfl, ?_⟩)) hm
          (repeat (first | refine lw_pure hT rfl ?_ | refine lw_nil ?_ | refine cw_seq ?_ | refine cw_region ?_ | refine qw_then ?_))
          refine cw_cond rfl (fun e4 => ?_) (fun e4 => ?_)
          · have e4 : a.kind = 4 := by simpa using e4
            (repeat (first | refine lw_pure hT rfl ?_ | refine cw_region ?_))
            refine lw_load hT rfl rfl (v := .int .i64 a.index) (hb1313.cell 1) ?_
            (repeat (refine lw_pure hT rfl ?_))
            refine lw_load hT rfl rfl (v := .string a.by_) (hb1313.cell 4) ?_
            (repeat (refine lw_pure hT rfl ?_))
            refine lw_load hT rfl rfl (v := .int .i64 a.day) (hb1313.cell 2) ?_
            skip
            have hcall := reg_Replace hR13 hG.nd a e4
            rw [ebill] at hcall
            refine lw_call hT rfl rfl hcall ?_
            rintro _ w14 ⟨rfl, hm⟩
            (repeat (first | refine lw_pure hT rfl ?_ | refine lw_nil ?_ | refine qw_block ?_))
            exact qw_cut () (by repeat (first | exact trivial | refine ⟨rfl, ?_⟩)) hm
          (repeat (first | refine lw_pure hT rfl ?_ | refine lw_nil ?_ | refine cw_seq ?_ | refine cw_region ?_ | refine qw_then ?_))
          refine cw_cond rfl (fun e5 => ?_) (fun e5 => ?_)
          · have e5 : a.kind = 5 := by simpa using e5
            (repeat (first | refine lw_pure hT rfl ?_ | refine cw_region ?_))
            refine lw_load hT rfl rfl (v := .string a.by_) (hb1313.cell 4) ?_
            (repeat (refine lw_pure hT rfl ?_))
            refine lw_load hT rfl rfl (v := .int .i64 a.day) (hb1313.cell 2) ?_
            skip
            have hcall := reg_Retire hR13 hG.nd a e5
            rw [ebill] at hcall
            refine lw_call hT rfl rfl hcall ?_
            rintro _ w14 ⟨rfl, hm⟩
            (repeat (first | refine lw_pure hT rfl ?_ | refine lw_nil ?_ | refine qw_block ?_))
            exact qw_cut () (by repeat (first | exact trivial | refine ⟨rfl, ?_⟩)) hm
          · exfalso; simp at e1 e2 e3 e4 e5; omega
        rintro _ w14 hm
        rw [hsame] at hm
        have hM14 := Mut.step hf' hM13.ext hm
        obtain ⟨gs2, hR14, _⟩ := hM14.is
        unfold pB
        (repeat (first | refine lw_pure hT rfl ?_ | refine cw_seq ?_ | refine cw_region ?_ | refine qw_then ?_))
        refine lw_guard rfl (fun e => absurd (of_decide_eq_true e) hne) (fun _ => ?_)
        (repeat (first | refine lw_pure hT rfl ?_ | (refine lw_gon_f rfl ?_ ?_; focus (first | with_reducible rfl | with_reducible exact Bool.not_false | with_reducible exact Bool.not_true))))
        refine lw_call hT rfl rfl (reg_State hR14 bill) ?_
        rintro _ _ ⟨rfl, rfl⟩
        rw [state_of hat']
        (repeat (first | refine lw_pure hT rfl ?_ | refine lw_nil ?_ | refine qw_then ?_ | (refine lw_gon_f rfl ?_ ?_; focus (first | with_reducible rfl | with_reducible exact Bool.not_false | with_reducible exact Bool.not_true))))
        refine cw_cond rfl (fun e => absurd rfl (of_decide_eq_true e)) (fun _ => ?_)
        (repeat (first | (refine lw_add rfl rfl ?_ ?_ ?_; iterate 2 omega) | refine lw_pure hT rfl ?_ | refine lw_nil ?_ | refine cw_region ?_ | refine qw_then ?_ | refine cw_skip ?_ | refine qw_block ?_))
        exact qw_round (i + 1) (by repeat (first | exact trivial | refine ⟨rfl, ?_⟩)) ⟨hlt, r', hM14, hG.mono (by omega), hat'⟩ (by omega)
    · (repeat (first | refine lw_pure hT rfl ?_ | refine lw_nil ?_ | refine cw_seq ?_ | refine cw_region ?_ | refine qw_then ?_ | refine cw_exit ?_ | refine qw_block_exit ?_ | refine qw_then_exit ?_))
      refine lw_call hT rfl rfl (reg_Originals hR' bill) ?_
      rintro v16 w11 ⟨hown, hx11⟩
      rw [origs_of hat'] at hown
      have h3 : x.ps.zipIdx.length = 3 := by rw [List.length_zipIdx]; exact hE.three
      rw [h3] at hown
      have hsl16 : Sl (fun _ => True) w11 v16 4 (x.ps.zipIdx.map fun q => origRow bill q.1 q.2) := own_sl (by rw [List.length_map, h3]; exact hown) (by intro r hr; obtain ⟨y, _, rfl⟩ := List.mem_map.1 hr; rfl) (fun _ _ => trivial)
      obtain ⟨g16, c16, rfl⟩ := own_slice hown (by decide)
      have hx011 := hx010.trans hx11
      (repeat (first | refine lw_pure hT rfl ?_ | refine lw_nil ?_ | refine cw_seq ?_ | refine cw_region ?_ | refine qw_then ?_ | refine cw_block ?_))
      refine cw_loop (fun k : Nat => [(2, .string bill), (7, .pointer (some ⟨p, 0, none⟩)), (9, .int .i64 x.state), (10, .pointer (some ⟨b10, 0, none⟩)), (15, .int .i64 (((x.ps.take k).filter isDone).length : Nat)), (16, .slice (some ⟨g16, 0, none⟩) 3 c16), (17, .int .i64 (k : Nat))])
        (fun k w' => k ≤ 3 ∧ w11 = w') (fun k => 3 - k) 0 (by repeat (first | exact trivial | refine ⟨rfl, ?_⟩)) ⟨Nat.zero_le _, rfl⟩ ?_
      rintro k _ ⟨hk, rfl⟩
      (repeat (first | refine lw_pure hT rfl ?_ | refine lw_nil ?_ | refine cw_seq ?_ | refine cw_region ?_ | refine qw_then ?_))
      refine cw_cond rfl (fun e => ?_) (fun e => ?_)
      · have hlt : k < 3 := by have := of_decide_eq_true e; omega
        obtain ⟨q, hkq⟩ : ∃ q, x.ps[k]? = some q := ⟨_, List.getElem?_eq_getElem (by rw [hE.three]; exact hlt)⟩
        have hqm := List.mem_of_getElem? hkq
        have hq12 : q.state ≠ 0 ∧ q.state ≠ 3 := by rcases hxs with h | h; rcases h.2.2 q hqm with h | h <;> omega; have := h.2 q hqm; omega
        have hrow : (x.ps.zipIdx.map fun q => origRow bill q.1 q.2)[k]? = some (origRow bill q k) := by rw [List.getElem?_map]; simp [hkq]
        obtain ⟨bb, oo, cc, hv, _, _, _, hrd⟩ := hsl16.at hrow
        simp only [Value.slice.injEq, Option.some.injEq, Addr.mk.injEq, and_true] at hv
        obtain ⟨⟨rfl, rfl⟩, _, _⟩ := hv
        have hc2 : w11.cell? ⟨g16, 0 + k * 4 + 2, none⟩ = some (.int .i64 q.state) := hrd 2 _ rfl
        have hfl := Nat.le_trans (List.length_filter_le isDone (x.ps.take k)) (List.length_take_le _ _)
        (repeat (first | refine lw_pure hT rfl ?_ | refine cw_seq ?_ | refine cw_region ?_ | refine qw_then ?_ | refine cw_skip ?_ | refine cw_block ?_))
        refine lw_index hT rfl rfl rfl k rfl hlt ?_
        (repeat (refine lw_pure hT rfl ?_))
        refine lw_load hT rfl rfl hc2 ?_
        (repeat (refine lw_pure hT rfl ?_))
        refine lw_guard rfl (fun e => absurd (of_decide_eq_true e) hq12.1) (fun _ => ?_)
        (repeat (first | refine lw_pure hT rfl ?_ | (refine lw_gon_f rfl ?_ ?_; focus (first | with_reducible rfl | with_reducible exact Bool.not_false | with_reducible exact Bool.not_true))))
        refine lw_index hT rfl rfl rfl k rfl hlt ?_
        (repeat (first | refine lw_pure hT rfl ?_ | (refine lw_gon_f rfl ?_ ?_; focus (first | with_reducible rfl | with_reducible exact Bool.not_false | with_reducible exact Bool.not_true))))
        refine lw_load hT rfl rfl hc2 ?_
        (repeat (first | refine lw_pure hT rfl ?_ | refine lw_nil ?_ | refine qw_then ?_ | (refine lw_gon_f rfl ?_ ?_; focus (first | with_reducible rfl | with_reducible exact Bool.not_false | with_reducible exact Bool.not_true))))
        refine cw_cond rfl (fun e => absurd (of_decide_eq_true e) hq12.2) (fun _ => ?_)
        (repeat (first | refine lw_pure hT rfl ?_ | refine cw_seq ?_ | refine cw_region ?_ | refine qw_then ?_ | refine cw_skip ?_))
        refine lw_index hT rfl rfl rfl k rfl hlt ?_
        (repeat (refine lw_pure hT rfl ?_))
        refine lw_load hT rfl rfl hc2 ?_
        (repeat (first | refine lw_pure hT rfl ?_ | refine lw_nil ?_ | refine qw_then ?_))
        have hft := fil_take hkq
        refine cw_cond rfl (fun e => ?_) (fun e => ?_)
        · have e : q.state = 1 := by simpa using e
          rw [if_pos e] at hft
          (repeat (first | (refine lw_add rfl rfl ?_ ?_ ?_; iterate 2 omega) | refine lw_pure hT rfl ?_ | refine lw_nil ?_ | refine cw_region ?_ | refine qw_then ?_ | refine qw_block ?_))
          refine qw_round (k + 1) ?_ ⟨hlt, rfl⟩ (by omega)
          rw [hft]
          exact (by repeat (first | exact trivial | refine ⟨rfl, ?_⟩))
        · have e : ¬ q.state = 1 := by simpa using e
          rw [if_neg e] at hft
          (repeat (first | (refine lw_add rfl rfl ?_ ?_ ?_; iterate 2 omega) | refine lw_pure hT rfl ?_ | refine lw_nil ?_ | refine cw_region ?_ | refine qw_then ?_ | refine cw_skip ?_ | refine qw_block ?_))
          refine qw_round (k + 1) ?_ ⟨hlt, rfl⟩ (by omega)
          rw [hft]
          exact (by repeat (first | exact trivial | refine ⟨rfl, ?_⟩))
      · have : k = 3 := by have := of_decide_eq_false e; omega
        subst this
        have etake : x.ps.take 3 = x.ps := by rw [← hE.three]; exact List.take_length
        rw [etake]
        have hsl11 : SlS (fun b => w6.heap.size ≤ b) w11 ub x.bill.boxes := (hsl9.ext hM.ext (fun b hb h => by have := hfl6 _ h; omega)).ex hx11
        have hb1011 : Blk w11 b10 (encB x.bill ub up) 34 := (hb109.ext hM.ext (fun h => by have := hfl6 _ h; omega)).ex hx11
        have hR11 := hR'.ex hx11
        have hml := may_len hE.may
        obtain ⟨a5, c5, rfl, _, hr5⟩ := hsl11.is
        simp only [List.length_map] at *
        (repeat (first | refine lw_pure hT rfl ?_ | refine lw_nil ?_ | refine cw_seq ?_ | refine cw_region ?_ | refine qw_then ?_ | refine cw_block ?_ | refine cw_exit ?_ | refine qw_block_exit ?_ | refine qw_then_exit ?_))
        refine cw_loop (fun k : Nat => [(2, .string bill), (7, .pointer (some ⟨p, 0, none⟩)), (9, .int .i64 x.state), (10, .pointer (some ⟨b10, 0, none⟩)), (15, .int .i64 ((x.ps.filter isDone).length : Nat)), (16, .slice (some ⟨g16, 0, none⟩) 3 c16), (18, .int .i64 (k : Nat))])
          (fun k w' => k ≤ x.bill.boxes.length ∧ Ex w11 w') (fun k => x.bill.boxes.length - k) 0 (by repeat (first | exact trivial | refine ⟨rfl, ?_⟩)) ⟨Nat.zero_le _, Ext.refl _ _⟩ ?_
        rintro k w12 ⟨hk, hx12⟩
        have hb1012 := hb1011.ex hx12
        (repeat (first | refine lw_pure hT rfl ?_ | refine cw_seq ?_ | refine cw_region ?_))
        refine lw_load hT rfl rfl (v := .slice a5 x.bill.boxes.length c5) (hb1012.cell 5) ?_
        (repeat (first | refine lw_pure hT rfl ?_ | refine lw_nil ?_ | refine qw_then ?_))
        refine cw_cond rfl (fun e => ?_) (fun e => ?_)
        · have hlt : k < x.bill.boxes.length := by have := of_decide_eq_true e; omega
          have hne5 : x.bill.boxes.map (fun s => [Value.string s]) ≠ [] := by intro e; simp at e; rw [e] at hlt; simp at hlt
          obtain ⟨bb, oo, rfl, _, hrd5⟩ := hr5 hne5
          have hrk := (hrd5 k [.string x.bill.boxes[k]] (by simp [hlt])).2.ex hx12
          (repeat (first | refine lw_pure hT rfl ?_ | refine cw_seq ?_ | refine cw_region ?_ | refine qw_then ?_ | refine cw_skip ?_ | refine cw_block ?_))
          refine lw_load hT rfl rfl (v := .slice (some ⟨bb, oo, none⟩) x.bill.boxes.length c5) (hb1012.cell 5) ?_
          (repeat (refine lw_pure hT rfl ?_))
          refine lw_index hT rfl rfl rfl k rfl hlt ?_
          skip
          refine lw_load hT rfl rfl (v := .string x.bill.boxes[k]) (hrk 0 _ rfl) ?_
          skip
          refine lw_call hT rfl rfl (reg_Box (hR11.ex hx12) x.bill.boxes[k]) ?_
          rintro v13 w13 ⟨hbox, hx13⟩
          rcases box_ended hG.nd hat' hx0 hbox with rfl | ⟨u, hu, rfl⟩
          · (repeat (first | (refine lw_add rfl rfl ?_ ?_ ?_; iterate 2 omega) | refine lw_pure hT rfl ?_ | refine lw_nil ?_ | refine cw_seq ?_ | refine cw_region ?_ | refine qw_then ?_ | refine cw_skip ?_ | (refine lw_goff_f rfl ?_ ?_; focus (first | with_reducible rfl | with_reducible exact Bool.not_false | with_reducible exact Bool.not_true)) | refine qw_block ?_ | (refine cw_cond_f rfl ?_ ?_; focus (first | with_reducible rfl | with_reducible exact Bool.not_false | with_reducible exact Bool.not_true))))
            exact qw_round (k + 1) (by repeat (first | exact trivial | refine ⟨rfl, ?_⟩)) ⟨hlt, hx12.trans hx13⟩ (by omega)
          · (repeat (first | refine lw_pure hT rfl ?_ | refine lw_nil ?_ | refine cw_seq ?_ | refine cw_region ?_ | refine qw_then ?_ | (refine lw_gon_t rfl ?_ ?_; focus (first | with_reducible rfl | with_reducible exact Bool.not_false | with_reducible exact Bool.not_true))))
            refine cw_cond rfl (fun e => absurd (of_decide_eq_true e) hu) (fun _ => ?_)
            (repeat (first | (refine lw_add rfl rfl ?_ ?_ ?_; iterate 2 omega) | refine lw_pure hT rfl ?_ | refine lw_nil ?_ | refine cw_region ?_ | refine qw_then ?_ | refine cw_skip ?_ | refine qw_block ?_))
            exact qw_round (k + 1) (by repeat (first | exact trivial | refine ⟨rfl, ?_⟩)) ⟨hlt, hx12.trans hx13⟩ (by omega)
        · (repeat (first | refine lw_pure hT rfl ?_ | refine cw_seq ?_ | refine cw_region ?_ | refine qw_then ?_ | refine cw_exit ?_ | refine qw_block_exit ?_ | refine qw_then_exit ?_))
          refine lw_guard rfl (fun _ => ?_) (fun e => absurd e (by decide))
          (repeat (first | refine lw_pure hT rfl ?_ | (refine lw_gon_t rfl ?_ ?_; focus (first | with_reducible rfl | with_reducible exact Bool.not_false | with_reducible exact Bool.not_true))))
          refine lw_eq_bool (by kernel_rfl) rfl rfl ?_
          have hlast : (decide (((x.ps.filter isDone).length : Int) = 1) == decide (x.state = 1)) = true ∧ ((x.ps.filter isDone).length : Int) ≤ 1 := by
            rcases hxs with h | h
            · rw [h.2.1, h.1]; decide
            · rw [fil_none h.2, h.1]; decide
          (repeat (refine lw_pure hT rfl ?_))
          refine lw_guard rfl (fun _ => ?_) (fun e => absurd hlast.1 (by rw [e]; decide))
          (repeat (first | refine lw_pure hT rfl ?_ | refine lw_nil ?_ | refine qw_then ?_ | refine cw_ret ?_ | (refine lw_gon_t rfl ?_ ?_; focus (first | with_reducible rfl | with_reducible exact Bool.not_false | with_reducible exact Bool.not_true))))
          exact qw_ret rfl ⟨by rw [decide_eq_true hlast.2]; rfl, hx011.trans hx12⟩
end Go.Proofs.Ytfbjpfgglgffgaa
