/- supercargolaw23.RegisterCopies, walked: it answers true, whatever it is given. -/
import Derived.Test.YtfbjpfgglgffgaaGreatHd
import Derived.Test.YtfbjpfgglgffgaaGreatRp
set_option linter.unusedVariables false
set_option linter.unusedSimpArgs false
set_option linter.unusedSectionVars false
set_option linter.unnecessarySimpa false
namespace Go.Proofs.YtfbjpfgglgffgaaGreat
open Go Go.SK

set_option maxHeartbeats 4000000 in
theorem l23_Copies {A1 A : Nat → Prop} {w0 : World} {v1 v : Value} {l1 l : List ActD} (h1 : ActsAt A1 w0 v1 l1) (h2 : ActsAt A w0 v l) (who : ByteArray) (hwho : who.size ≤ maxLen) (box : ByteArray) (hbox : box.size ≤ maxLen) :
    Ret Tryz.prog 8 [v1, v, .string who, .string box] w0 fun v w' => v = .bool true ∧ Ex w0 w' := by
  obtain ⟨p1, cap1, rfl, _, _⟩ := h1.is
  obtain ⟨pv_, cap, rfl, hm, _⟩ := h2.is
  have hmm_ := hm
  unfold maxLen at hmm_
  refine ret_of Tryz.func8 Tryz.ntmps8 rfl rfl rfl ?_
  (repeat (first | refine lw_pure hT rfl ?_ | refine lw_nil ?_ | refine cw_seq ?_ | refine cw_region ?_ | refine qw_then ?_))
  refine lw_call hT rfl rfl (l23_awake w0) ?_
  rintro _ wa ⟨rfl, hxa⟩
  (repeat (first | refine lw_pure hT rfl ?_ | refine lw_nil ?_ | refine cw_seq ?_ | refine cw_region ?_ | refine qw_then ?_ | refine cw_skip ?_ | (refine cw_cond_f rfl ?_ ?_; focus (first | with_reducible rfl | with_reducible exact Bool.not_false | with_reducible exact Bool.not_true))))
  refine lw_call hT rfl rfl (l23_right (h1.ex hxa)) ?_
  rintro _ wb ⟨⟨b1, rfl, hr1⟩, hxb⟩
  (repeat (refine lw_pure hT rfl ?_))
  have hx0b := hxa.trans hxb
  refine lw_guard rfl (fun e => ?_) (fun e => ?_)
  · (repeat (first | refine lw_pure hT rfl ?_ | refine lw_nil ?_ | refine cw_seq ?_ | refine cw_region ?_ | refine qw_then ?_ | refine cw_ret ?_ | refine qw_then_ret ?_ | (refine lw_goff_t rfl ?_ ?_; focus (first | with_reducible rfl | with_reducible exact Bool.not_false | with_reducible exact Bool.not_true)) | (refine cw_cond_t rfl ?_ ?_; focus (first | with_reducible rfl | with_reducible exact Bool.not_false | with_reducible exact Bool.not_true))))
    exact qw_ret rfl ⟨rfl, hx0b⟩
  replace hr1 := hr1 (by simpa using e)
  (repeat (first | refine lw_pure hT rfl ?_ | (refine lw_gon_f rfl ?_ ?_; focus (first | with_reducible rfl | with_reducible exact Bool.not_false | with_reducible exact Bool.not_true))))
  refine lw_call hT rfl rfl (l23_right (h2.ex hx0b)) ?_
  rintro _ wc ⟨⟨b2, rfl, hr⟩, hxc⟩
  have hx0c := hx0b.trans hxc
  (repeat (first | refine lw_pure hT rfl ?_ | (refine lw_gon_f rfl ?_ ?_; focus (first | with_reducible rfl | with_reducible exact Bool.not_false | with_reducible exact Bool.not_true))))
  refine lw_guard rfl (fun e => ?_) (fun e => ?_)
  · (repeat (first | refine lw_pure hT rfl ?_ | refine lw_nil ?_ | refine cw_seq ?_ | refine cw_region ?_ | refine qw_then ?_ | refine cw_ret ?_ | refine qw_then_ret ?_ | (refine lw_goff_t rfl ?_ ?_; focus (first | with_reducible rfl | with_reducible exact Bool.not_false | with_reducible exact Bool.not_true)) | (refine cw_cond_t rfl ?_ ?_; focus (first | with_reducible rfl | with_reducible exact Bool.not_false | with_reducible exact Bool.not_true))))
    exact qw_ret rfl ⟨rfl, hx0c⟩
  replace hr := hr (by simpa using e)
  (repeat (first | refine lw_pure hT rfl ?_ | refine lw_nil ?_ | refine qw_then ?_ | (refine lw_gon_f rfl ?_ ?_; focus (first | with_reducible rfl | with_reducible exact Bool.not_false | with_reducible exact Bool.not_true))))
  refine cw_cond rfl (fun e => ?_) (fun e => ?_)
  · (repeat (first | refine lw_pure hT rfl ?_ | refine lw_nil ?_ | refine cw_seq ?_ | refine cw_region ?_ | refine qw_then ?_ | refine cw_ret ?_ | refine qw_then_ret ?_))
    exact qw_ret rfl ⟨rfl, hx0c⟩
  (repeat (first | refine lw_pure hT rfl ?_ | refine cw_seq ?_ | refine cw_region ?_ | refine qw_then ?_ | refine cw_skip ?_))
  refine lw_call hT rfl rfl (l23_play (h1.ex hx0c) hr1) ?_
  rintro _ wd ⟨⟨pr, mr, gr, vR, fgr, AR, rfl, hP0⟩, hxd⟩
  have hgood := good_run (good_new ⟨#[99]⟩) h1.ok hr1.2
  rw [Nat.zero_add] at hgood
  replace hgood : Good l1.length (runA regC l1) := hgood
  have hlen1 := hr1.1.1
  have ec0 : (runA regC l1).carrier = ⟨#[99]⟩ := runA_carrier _ _
  obtain ⟨r0, hr0⟩ : ∃ r0, r0 = runA regC l1 := ⟨_, rfl⟩
  rw [← hr0] at hgood hP0 ec0
  (repeat (refine lw_pure hT rfl ?_))
  refine lw_alloc z28 ?_
  intro b8 we hbb8 hb8e hxe hse
  (repeat (refine lw_pure hT rfl ?_))
  refine lw_store_agg hT rfl rfl rfl rfl (by intro v hv; simp [encR] at hv; rcases hv with rfl | rfl <;> first | rfl | exact Sl.one hP0.frep.sl) hb8e (show (2 : Nat) ≤ 2 by decide) ?_
  intro w hb8 hxf hsf
  replace hb8 : Blk w b8 (encR ⟨#[99]⟩ vR) 28 := hb8
  have hxdw : Ex wd w := hxe.up_new hxf (fun i h => by omega)
  have hx00 := (hx0c.trans hxd).trans hxdw
  have hRR := hP0.rep.ex hxdw
  have hFF := hP0.frep.ex hxdw
  have hA := h2.ex hx00
  have hA0 := hA.lt
  have hlen := hr.1.1
  obtain ⟨_, _, hve, _, hrow⟩ := hA0.is
  simp only [Value.slice.injEq] at hve
  obtain ⟨rfl, _, rfl⟩ := hve
  have good : ∀ i, i ≤ l.length → Good (l1.length + i) (runA r0 (l.take i)) := fun i hi => by
    have := good_run (l := l.take i) hgood (fun a ha => hA.ok a (List.mem_of_mem_take ha)) (fun a ha => hr.2 a (List.mem_of_mem_take ha))
    have e : (l.take i).length = i := by simp; omega
    rw [e] at this
    exact this
  (repeat (first | refine lw_pure hT rfl ?_ | refine lw_nil ?_ | refine cw_seq ?_ | refine cw_region ?_ | refine qw_then ?_ | refine cw_skip ?_ | (refine cw_cond_f rfl ?_ ?_; focus (first | with_reducible rfl | with_reducible exact Bool.not_false | with_reducible exact Bool.not_true)) | refine lw_eqp_some hT rfl rfl ?_))
  refine lw_call hT rfl rfl (reg_Copy hRR (hgood.small (by omega))) ?_
  rintro _ w2 ⟨⟨p, m, g2, rfl, hC, hCn⟩, hx2⟩
  (repeat (first | refine lw_pure hT rfl ?_ | refine lw_nil ?_ | refine cw_seq ?_ | refine cw_region ?_ | refine qw_then ?_ | refine cw_skip ?_ | (refine cw_cond_f rfl ?_ ?_; focus (first | with_reducible rfl | with_reducible exact Bool.not_false | with_reducible exact Bool.not_true)) | refine lw_eqp_some hT rfl rfl ?_))
  refine lw_load_agg hT rfl rfl rfl (vs := encR ⟨#[99]⟩ vR) ((hb8.ex hx2).rd 0 2) ?_
  skip
  refine lw_alloc z28 ?_
  intro b5 w3 hbb5 hb5 hx3 hs3
  skip
  refine lw_store_agg hT rfl rfl rfl rfl (by intro v hv; simp [encR] at hv; rcases hv with rfl | rfl <;> first | rfl | exact Sl.one hFF.sl) hb5 (show (2 : Nat) ≤ 2 by decide) ?_
  intro w4 hb54 hx4 hs4
  replace hb54 : Blk w4 b5 (encR ⟨#[99]⟩ vR) 28 := hb54
  have hl2 := hx2.size
  have hx24 : Ex w2 w4 := hx3.up_new hx4 (fun i h => by omega)
  have hx04 := hx2.trans hx24
  have hl24 := hx24.size
  have hCl : ∀ b ∈ foot p m g2, b < w2.heap.size := fun b hb => hC.foot_lt hb
  (repeat (first | refine lw_pure hT rfl ?_ | refine lw_nil ?_ | refine cw_seq ?_ | refine cw_region ?_ | refine qw_then ?_ | refine cw_block ?_))
  refine cw_loop (fun i : Nat => [(1, .slice pv_ l.length cap), (2, .string who), (3, .string box), (9, .pointer (some ⟨pr, 0, none⟩)), (10, .pointer (some ⟨b8, 0, none⟩)), (11, .pointer (some ⟨p, 0, none⟩)), (12, .pointer (some ⟨b5, 0, none⟩)), (13, .int .i64 (i : Nat))])
    (fun i w' => i ≤ l.length ∧ Ex w w' ∧ w4.heap.size ≤ w'.heap.size ∧ ∃ gs vL fgs A', PlayP 0 w' (runA r0 (l.take i)) p m gs vL fgs A' ∧ (∀ b ∈ foot p m gs, w.heap.size ≤ b) ∧ Blk w' b5 (encR ⟨#[99]⟩ vL) 28 ∧ b5 ∉ foot p m gs ∧ ¬ A' b5)
    (fun i => l.length - i) 0 (by repeat (first | exact trivial | refine ⟨rfl, ?_⟩)) ⟨Nat.zero_le _, hx04, Nat.le_refl _, g2, vR, fgr, fun b => AR b ∧ b < w.heap.size, ⟨hC.ex hx24, fun _ _ => Nat.zero_le _, hFF.lt.ex hx04, fun b hb h => ?_, fun _ _ => Nat.zero_le _⟩, hCn, hb54, fun h => ?_, fun h => ?_⟩ ?_
  · have := hCn b h; have := hb.2; omega
  · have := hCl _ h; omega
  · have := h.2; omega
  rintro i w5 ⟨hi, hx05, hl45, gs, vL, fgs, A', hP, hfn, hb55, hn5, hA5⟩
  (repeat (first | refine lw_pure hT rfl ?_ | refine lw_nil ?_ | refine cw_seq ?_ | refine cw_region ?_ | refine qw_then ?_))
  refine cw_cond rfl (fun h => ?_) (fun h => ?_)
  · have hlt : i < l.length := by have := of_decide_eq_true h; omega
    obtain ⟨b, o, vb, vp, rfl, hbA, hrd, hat⟩ := hrow i hlt
    have hg := good i hi
    have hdo := fun (w6 : World) (hx : Ex w5 w6) => l23_do (A0 := fun b => A b ∧ b < w.heap.size) (vb := vb) (vp := vp) (a := l[i]) (hP.rep.ex hx) hg (by omega) (hP.frep.lt.ex hx) hg (by omega) (fun b hb => hP.dis b hb.1) (hat.ex (hx05.trans hx)) (hr.2 _ (List.getElem_mem hlt))
    have ec : (runA r0 (l.take i)).carrier = ⟨#[99]⟩ := (runA_carrier _ _).trans ec0
    rw [ec] at hdo
    have hl05 := hx05.size
    have hfl5 : ∀ b ∈ foot p m gs, b < w5.heap.size := fun b hb => hP.rep.foot_lt hb
    have hl55 := hb55.lt
    (repeat (first | refine cw_seq ?_ | refine qw_then ?_ | refine cw_skip ?_ | refine cw_block ?_))
    refine cw_then_cut (α := Nat × Value) (fun u => [(1, .slice (some ⟨b, o, none⟩) l.length cap), (2, .string who), (3, .string box), (9, pB pr), (10, pB b8), (11, pB p), (12, pB b5), (13, .int .i64 (i : Nat)), (14, pB u.1), (15, .bool true)])
      (fun u w' => Ext (· ∈ foot p m gs) w5 w' ∧ Blk w' u.1 (encR ⟨#[99]⟩ u.2) 28 ∧ ∃ gs' fgs' A'', PlayP 0 w' (runA r0 (l.take (i + 1))) p m gs' u.2 fgs' A'' ∧ (∀ x ∈ foot p m gs', x ∈ foot p m gs ∨ w5.heap.size ≤ x) ∧ (∀ x, A'' x → A' x ∨ w5.heap.size ≤ x)) ?_ ?_
    · unfold pB
      refine cw_draw hM (fun w' => Ex w5 w') [6] rfl rfl (by repeat (first | with_reducible refine nop_then ?_ | with_reducible refine nop_block ?_ | with_reducible exact nop_body)) (fun w6 hx6 _ => ⟨hx6, ?_⟩)
      (refine rw_takeP 0 rfl rfl (by kernel_rfl) (by kernel_rfl) (by kernel_rfl) (by kernel_rfl) rfl (yo_pure hT rfl) ?_)
      refine rw_take 1 rfl rfl (by kernel_rfl) (by kernel_rfl) (by kernel_rfl) (by kernel_rfl) rfl (yo_load_agg hT rfl rfl rfl (vs := encR ⟨#[99]⟩ vL) (fun w' hS => (hb55.ex hS).rd 0 2)) ?_
      (refine rw_takeP 2 rfl rfl (by kernel_rfl) (by kernel_rfl) (by kernel_rfl) (by kernel_rfl) rfl (yo_pure hT rfl) ?_; refine rw_takeP 3 rfl rfl (by kernel_rfl) (by kernel_rfl) (by kernel_rfl) (by kernel_rfl) rfl (yo_pure hT rfl) ?_)
      refine rw_takeP 4 rfl rfl (by kernel_rfl) (by kernel_rfl) (by kernel_rfl) (by kernel_rfl) rfl (yo_index hT rfl rfl rfl i rfl hlt) ?_
      refine rw_take 5 rfl rfl (by kernel_rfl) (by kernel_rfl) (by kernel_rfl) (by kernel_rfl) rfl (yo_load_agg hT rfl rfl rfl (vs := encAct l[i] vb vp) (fun w' hS => hrd.ex (hx05.trans hS))) ?_
      refine rw_two 6 10 rfl rfl (by kernel_rfl) rfl rfl (fun hcl => ?_) (fun hcl => ?_)
      · refine lw_call hT rfl rfl (hdo w6 hx6) ?_
        rintro _ w7 ⟨⟨gs', vL', fgs', bb, A'', rfl, hbb, hR', hf', hF', hd', hA''⟩, hx7⟩
        have hbt := hbb rfl
        subst hbt
        have hl6 := hx6.size
        have hl7 := hx7.size
        (repeat (refine lw_nil ?_))
        refine qw_rw (by repeat (first | with_reducible refine nop_then ?_ | with_reducible refine nop_block ?_ | with_reducible exact nop_body)) hcl (fun h => absurd h (by decide)) ?_
        (refine rw_takeP 7 rfl rfl (by kernel_rfl) (by kernel_rfl) (by kernel_rfl) (by kernel_rfl) rfl (yo_pure hT rfl) ?_; refine rw_takeP 8 rfl rfl (by kernel_rfl) (by kernel_rfl) (by kernel_rfl) (by kernel_rfl) rfl (yo_pure hT rfl) ?_; refine rw_takeP 9 rfl rfl (by kernel_rfl) (by kernel_rfl) (by kernel_rfl) (by kernel_rfl) rfl (yo_pure hT rfl) ?_)
        refine rw_one 10 rfl (by kernel_rfl) rfl (fun hcl => ?_)
        refine lw_alloc z28 ?_
        intro b7 w8 hbb7 hb7 hx8 hs8
        (repeat (refine lw_nil ?_))
        refine qw_rw (by repeat (first | with_reducible refine nop_then ?_ | with_reducible refine nop_block ?_ | with_reducible exact nop_body)) hcl (fun h => absurd h (by decide)) ?_
        refine rw_one 11 rfl (by kernel_rfl) rfl (fun hcl => ?_)
        refine lw_store_agg hT rfl rfl rfl rfl (by intro v hv; simp [encR] at hv; rcases hv with rfl | rfl <;> first | rfl | exact Sl.one hF'.sl) hb7 (show (2 : Nat) ≤ 2 by decide) ?_
        intro w9 hb79 hx9 hs9
        (repeat (refine lw_nil ?_))
        refine qw_rw (by repeat (first | with_reducible refine nop_then ?_ | with_reducible refine nop_block ?_ | with_reducible exact nop_body)) hcl (fun h => absurd h (by decide)) ?_
        (refine rw_takeP 12 rfl rfl (by kernel_rfl) (by kernel_rfl) (by kernel_rfl) (by kernel_rfl) rfl (yo_pure hT rfl) ?_)
        refine rw_done (by kernel_rfl) ?_
        skip
        replace hb79 : Blk w9 b7 (encR ⟨#[99]⟩ vL') 28 := by rw [← ec]; exact hb79
        have hx79 : Ex w7 w9 := hx8.up_new hx9 (fun i h => by omega)
        refine qw_cut (b7, vL') (by repeat (first | exact trivial | refine ⟨rfl, ?_⟩)) ⟨((Ext.of_ex hx6).trans hx7).trans (Ext.of_ex hx79), hb79, gs', fgs', A'', ⟨?_, ?_, ?_, ?_, ?_⟩, ?_, ?_⟩
        · rw [runA_take hlt]; exact hR'.ex hx79
        · intro x hx
          rcases hf' x hx with h | h
          · exact hP.new x h
          · exact Nat.zero_le _
        · rw [runA_take hlt]; exact hF'.ex hx79
        · exact hd'
        · intro x hx
          rcases hA'' x hx with h | h
          · exact hP.newA x h.1
          · exact Nat.zero_le _
        · intro x hx
          rcases hf' x hx with h | h
          · exact .inl h
          · exact .inr (by omega)
        · intro x hx
          rcases hA'' x hx with h | h
          · exact .inl h.1
          · exact .inr (by omega)
      · refine lw_alloc z28 ?_
        intro b7 w7 hbb7 hb7 hx7 hs7
        (repeat (refine lw_nil ?_))
        have hx57 := hx6.trans hx7
        refine qw_rw (by repeat (first | with_reducible refine nop_then ?_ | with_reducible refine nop_block ?_ | with_reducible exact nop_body)) hcl (fun _ => hx57) ?_
        refine rw_one 6 rfl (by kernel_rfl) rfl (fun hcl => ?_)
        refine lw_call hT rfl rfl (hdo w7 hx57) ?_
        rintro _ w8 ⟨⟨gs', vL', fgs', bb, A'', rfl, hbb, hR', hf', hF', hd', hA''⟩, hx8⟩
        have hbt := hbb rfl
        subst hbt
        have hl6 := hx6.size
        have hl8 := hx8.size
        have hb78 := hb7.ext hx8 (fun h => by have := hfl5 _ h; omega)
        (repeat (refine lw_nil ?_))
        refine qw_rw (by repeat (first | with_reducible refine nop_then ?_ | with_reducible refine nop_block ?_ | with_reducible exact nop_body)) hcl (fun h => absurd h (by decide)) ?_
        (refine rw_takeP 7 rfl rfl (by kernel_rfl) (by kernel_rfl) (by kernel_rfl) (by kernel_rfl) rfl (yo_pure hT rfl) ?_; refine rw_takeP 8 rfl rfl (by kernel_rfl) (by kernel_rfl) (by kernel_rfl) (by kernel_rfl) rfl (yo_pure hT rfl) ?_; refine rw_takeP 9 rfl rfl (by kernel_rfl) (by kernel_rfl) (by kernel_rfl) (by kernel_rfl) rfl (yo_pure hT rfl) ?_)
        refine rw_one 11 rfl (by kernel_rfl) rfl (fun hcl => ?_)
        refine lw_store_agg hT rfl rfl rfl rfl (by intro v hv; simp [encR] at hv; rcases hv with rfl | rfl <;> first | rfl | exact Sl.one hF'.sl) hb78 (show (2 : Nat) ≤ 2 by decide) ?_
        intro w9 hb79 hx9 hs9
        (repeat (refine lw_nil ?_))
        refine qw_rw (by repeat (first | with_reducible refine nop_then ?_ | with_reducible refine nop_block ?_ | with_reducible exact nop_body)) hcl (fun h => absurd h (by decide)) ?_
        (refine rw_takeP 12 rfl rfl (by kernel_rfl) (by kernel_rfl) (by kernel_rfl) (by kernel_rfl) rfl (yo_pure hT rfl) ?_)
        refine rw_done (by kernel_rfl) ?_
        skip
        replace hb79 : Blk w9 b7 (encR ⟨#[99]⟩ vL') 28 := by rw [← ec]; exact hb79
        have hb7f : b7 ∉ foot p m gs' := fun h => by
          rcases hf' _ h with h | h
          · have := hfl5 _ h; omega
          · omega
        have hb7A : ¬ A'' b7 := fun h => by
          rcases hA'' _ h with h | h
          · have := h.2; omega
          · omega
        refine qw_cut (b7, vL') (by repeat (first | exact trivial | refine ⟨rfl, ?_⟩)) ⟨((Ext.of_ex hx57).trans hx8).up_new hx9 (fun i h => by omega), hb79, gs', fgs', A'', ⟨?_, ?_, ?_, ?_, ?_⟩, ?_, ?_⟩
        · rw [runA_take hlt]; exact hR'.frame hx9 (fun b hb e => hb7f (e ▸ hb))
        · intro x hx
          rcases hf' x hx with h | h
          · exact hP.new x h
          · exact Nat.zero_le _
        · rw [runA_take hlt]; exact hF'.ext hx9 (fun b hb e => hb7A (e ▸ hb))
        · exact hd'
        · intro x hx
          rcases hA'' x hx with h | h
          · exact hP.newA x h.1
          · exact Nat.zero_le _
        · intro x hx
          rcases hf' x hx with h | h
          · exact .inl h
          · exact .inr (by omega)
        · intro x hx
          rcases hA'' x hx with h | h
          · exact .inl h.1
          · exact .inr (by omega)
    · rintro ⟨b7, vL'⟩ w6 ⟨hx6, hb7, gs', fgs', A'', hP', hf', hA''⟩
      dsimp only at hb7 hP' ⊢
      unfold pB
      have hl6 := hx6.size
      have hb56 := hb55.ext hx6 hn5
      have hn5' : b5 ∉ foot p m gs' := fun h => by
        rcases hf' _ h with h | h
        · exact hn5 h
        · omega
      have hA5' : ¬ A'' b5 := fun h => by
        rcases hA'' _ h with h | h
        · exact hA5 h
        · omega
      have hfn' : ∀ x ∈ foot p m gs', w.heap.size ≤ x := fun x hx => by
        rcases hf' x hx with h | h
        · exact hfn x h
        · omega
      (repeat (first | refine cw_seq ?_ | refine cw_region ?_ | refine qw_then ?_))
      refine lw_load_agg hT rfl rfl rfl (vs := encR ⟨#[99]⟩ vL') (hb7.rd 0 2) ?_
      skip
      refine lw_store_agg hT rfl rfl rfl rfl (by intro v hv; simp [encR] at hv; rcases hv with rfl | rfl <;> first | rfl | exact Sl.one hP'.frep.sl) hb56 (show (2 : Nat) ≤ 2 by decide) ?_
      intro w7 hb57 hx7 hs7
      replace hb57 : Blk w7 b5 (encR ⟨#[99]⟩ vL') 28 := hb57
      have hx07 : Ex w w7 := (hx05.up_new hx6 (fun x hx => hfn x hx)).up_new hx7 (fun i h => by omega)
      (repeat (first | (refine lw_add rfl rfl ?_ ?_ ?_; iterate 2 omega) | refine lw_pure hT rfl ?_ | refine lw_nil ?_ | refine cw_seq ?_ | refine cw_region ?_ | refine qw_then ?_ | refine cw_skip ?_ | refine qw_block ?_ | (refine cw_cond_f rfl ?_ ?_; focus (first | with_reducible rfl | with_reducible exact Bool.not_false | with_reducible exact Bool.not_true))))
      refine qw_round (i + 1) (by repeat (first | exact trivial | refine ⟨rfl, ?_⟩)) ⟨hlt, hx07, by have := hx7.size; omega, gs', vL', fgs', A'', ⟨hP'.rep.frame hx7 (fun b hb e => hn5' (e ▸ hb)), hP'.new, hP'.frep.ext hx7 (fun b hb e => hA5' (e ▸ hb)), hP'.dis, hP'.newA⟩, hfn', hb57, hn5', hA5'⟩ (by omega)
  · have : i = l.length := by have := of_decide_eq_false h; omega
    subst this
    have hgl := good l.length (Nat.le_refl _)
    rw [List.take_length] at hP hgl
    have hU := l23_Unlike hP.rep hgl (by omega) hP.frep who box
    rw [show (runA r0 l).carrier = ⟨#[99]⟩ from (runA_carrier _ _).trans ec0] at hU
    (repeat (first | refine lw_pure hT rfl ?_ | refine cw_seq ?_ | refine cw_region ?_ | refine qw_then ?_ | refine cw_exit ?_ | refine qw_block_exit ?_ | refine qw_then_exit ?_))
    refine lw_load_agg hT rfl rfl rfl (vs := encR ⟨#[99]⟩ vL) (hb55.rd 0 2) ?_
    (repeat (refine lw_pure hT rfl ?_))
    refine lw_call hT rfl rfl hU ?_
    rintro _ w6 ⟨rfl, hx6⟩
    have hx06 := hx05.trans hx6
    have hU := l23_Unlike (hRR.ex hx06) hgood (by omega) (hFF.ex hx06) who box
    rw [ec0] at hU
    (repeat (refine lw_pure hT rfl ?_))
    refine lw_guard rfl (fun _ => ?_) (fun e => absurd e (by decide))
    (repeat (first | refine lw_pure hT rfl ?_ | (refine lw_gon_t rfl ?_ ?_; focus (first | with_reducible rfl | with_reducible exact Bool.not_false | with_reducible exact Bool.not_true))))
    refine lw_load_agg hT rfl rfl rfl (vs := encR ⟨#[99]⟩ vR) ((hb8.ex hx06).rd 0 2) ?_
    (repeat (first | refine lw_pure hT rfl ?_ | (refine lw_gon_t rfl ?_ ?_; focus (first | with_reducible rfl | with_reducible exact Bool.not_false | with_reducible exact Bool.not_true))))
    refine lw_call hT rfl rfl hU ?_
    rintro _ w7 ⟨rfl, hx7⟩
    (repeat (first | refine lw_pure hT rfl ?_ | refine lw_nil ?_ | refine qw_then ?_ | refine cw_ret ?_ | (refine lw_gon_t rfl ?_ ?_; focus (first | with_reducible rfl | with_reducible exact Bool.not_false | with_reducible exact Bool.not_true))))
    exact qw_ret rfl ⟨rfl, (hx00.trans hx06).trans hx7⟩
end Go.Proofs.YtfbjpfgglgffgaaGreat
