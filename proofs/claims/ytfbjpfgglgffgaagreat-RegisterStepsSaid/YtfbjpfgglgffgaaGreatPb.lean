/- supercargolaw23.RegisterSteps, walked: it answers true, whatever it is given. -/
import Derived.Test.YtfbjpfgglgffgaaGreatHd
set_option linter.unusedVariables false
set_option linter.unusedSimpArgs false
set_option linter.unusedSectionVars false
set_option linter.unnecessarySimpa false
namespace Go.Proofs.YtfbjpfgglgffgaaGreat
open Go Go.SK

set_option maxHeartbeats 4000000 in
theorem l23_Steps {A : Nat → Prop} {w0 : World} {v : Value} {l : List ActD} (hA0 : ActsAt A w0 v l) (who : ByteArray) (hwho : who.size ≤ maxLen) (box : ByteArray) (hbox : box.size ≤ maxLen) :
    Ret Tryz.prog 6 [v, .string who, .string box] w0 fun v w' => v = .bool true ∧ Ex w0 w' := by
  obtain ⟨pv_, cap, rfl, hm, _⟩ := hA0.is
  have hmm_ := hm
  unfold maxLen at hmm_
  refine ret_of Tryz.func6 Tryz.ntmps6 rfl rfl rfl ?_
  (repeat (first | refine lw_pure hT rfl ?_ | refine lw_nil ?_ | refine cw_seq ?_ | refine cw_region ?_ | refine qw_then ?_))
  refine lw_call hT rfl rfl (l23_awake w0) ?_
  rintro _ wa ⟨rfl, hxa⟩
  (repeat (first | refine lw_pure hT rfl ?_ | refine lw_nil ?_ | refine cw_seq ?_ | refine cw_region ?_ | refine qw_then ?_ | refine cw_skip ?_ | (refine cw_cond_f rfl ?_ ?_; focus (first | with_reducible rfl | with_reducible exact Bool.not_false | with_reducible exact Bool.not_true))))
  refine lw_call hT rfl rfl (l23_right (hA0.ex hxa)) ?_
  rintro _ w ⟨⟨b1, rfl, hr⟩, hxb⟩
  (repeat (refine lw_pure hT rfl ?_))
  have hx00 := hxa.trans hxb
  refine lw_guard rfl (fun e => ?_) (fun e => ?_)
  · (repeat (first | refine lw_pure hT rfl ?_ | refine lw_nil ?_ | refine cw_seq ?_ | refine cw_region ?_ | refine qw_then ?_ | refine cw_ret ?_ | refine qw_then_ret ?_ | (refine lw_goff_t rfl ?_ ?_; focus (first | with_reducible rfl | with_reducible exact Bool.not_false | with_reducible exact Bool.not_true)) | (refine cw_cond_t rfl ?_ ?_; focus (first | with_reducible rfl | with_reducible exact Bool.not_false | with_reducible exact Bool.not_true))))
    exact qw_ret rfl ⟨rfl, hx00⟩
  replace hr := hr (by simpa using e)
  (repeat (first | refine lw_pure hT rfl ?_ | (refine lw_gon_f rfl ?_ ?_; focus (first | with_reducible rfl | with_reducible exact Bool.not_false | with_reducible exact Bool.not_true))))
  refine lw_guard rfl (fun e => ?_) (fun e => ?_)
  · (repeat (first | refine lw_pure hT rfl ?_ | refine lw_nil ?_ | refine cw_seq ?_ | refine cw_region ?_ | refine qw_then ?_ | refine cw_ret ?_ | refine qw_then_ret ?_ | (refine lw_goff_t rfl ?_ ?_; focus (first | with_reducible rfl | with_reducible exact Bool.not_false | with_reducible exact Bool.not_true)) | (refine cw_cond_t rfl ?_ ?_; focus (first | with_reducible rfl | with_reducible exact Bool.not_false | with_reducible exact Bool.not_true))))
    exact qw_ret rfl ⟨rfl, hx00⟩
  (repeat (first | refine lw_pure hT rfl ?_ | refine lw_nil ?_ | refine qw_then ?_ | (refine lw_gon_f rfl ?_ ?_; focus (first | with_reducible rfl | with_reducible exact Bool.not_false | with_reducible exact Bool.not_true))))
  refine cw_cond rfl (fun e => ?_) (fun e => ?_)
  · (repeat (first | refine lw_pure hT rfl ?_ | refine lw_nil ?_ | refine cw_seq ?_ | refine cw_region ?_ | refine qw_then ?_ | refine cw_ret ?_ | refine qw_then_ret ?_))
    exact qw_ret rfl ⟨rfl, hx00⟩
  (repeat (first | refine cw_seq ?_ | refine cw_region ?_ | refine qw_then ?_ | refine cw_skip ?_))
  have hA := hA0.ex hx00
  have hA0 := hA.lt
  have hlen := hr.1.1
  obtain ⟨_, _, hve, _, hrow⟩ := hA0.is
  simp only [Value.slice.injEq] at hve
  obtain ⟨rfl, _, rfl⟩ := hve
  have good : ∀ i, i ≤ l.length → Good i (runA regC (l.take i)) := fun i hi => by
    have := good_run (l := l.take i) (good_new ⟨#[99]⟩) (fun a ha => hA.ok a (List.mem_of_mem_take ha)) (fun a ha => hr.2 a (List.mem_of_mem_take ha))
    have e : (l.take i).length = i := by simp; omega
    rw [e, Nat.zero_add] at this
    exact this
  refine lw_call hT rfl rfl (reg_New w ⟨#[99]⟩) ?_
  rintro _ w2 ⟨p, m, rfl, hR, hp, hmm, hx2⟩
  skip
  refine lw_build bt28 rfl ?_
  skip
  refine lw_alloc z28 ?_
  intro b5 w3 hbb5 hb5 hx3 hs3
  (repeat (refine lw_pure hT rfl ?_))
  refine lw_store_agg hT rfl rfl rfl rfl (by intro v hv; simp at hv; rcases hv with rfl | rfl <;> rfl) hb5 (show (2 : Nat) ≤ 2 by decide) ?_
  intro w4 hb54 hx4 hs4
  replace hb54 : Blk w4 b5 (encR ⟨#[99]⟩ (.slice none 0 0)) 28 := hb54
  have hl2 := hx2.size
  have hx24 : Ex w2 w4 := hx3.up_new hx4 (fun i h => by omega)
  have hx04 := hx2.trans hx24
  have hl24 := hx24.size
  have hpl := hR.blk.lt
  obtain ⟨es, hMp, _⟩ := hR.map
  have hml := hMp.lt
  (repeat (first | refine lw_pure hT rfl ?_ | refine lw_nil ?_ | refine cw_seq ?_ | refine cw_region ?_ | refine qw_then ?_ | refine cw_skip ?_ | refine cw_block ?_ | (refine cw_cond_f rfl ?_ ?_; focus (first | with_reducible rfl | with_reducible exact Bool.not_false | with_reducible exact Bool.not_true)) | refine lw_eqp_some hT rfl rfl ?_))
  refine cw_loop (fun i : Nat => [(0, .slice pv_ l.length cap), (1, .string who), (2, .string box), (7, .pointer (some ⟨p, 0, none⟩)), (8, .pointer (some ⟨b5, 0, none⟩)), (9, .int .i64 (i : Nat))])
    (fun i w' => i ≤ l.length ∧ Ex w w' ∧ w4.heap.size ≤ w'.heap.size ∧ ∃ gs vL fgs A', PlayP w.heap.size w' (runA regC (l.take i)) p m gs vL fgs A' ∧ Blk w' b5 (encR ⟨#[99]⟩ vL) 28 ∧ b5 ∉ foot p m gs ∧ ¬ A' b5)
    (fun i => l.length - i) 0 (by repeat (first | exact trivial | refine ⟨rfl, ?_⟩)) ⟨Nat.zero_le _, hx04, Nat.le_refl _, [], .slice none 0 0, [], fun _ => False, ⟨?_, ?_, ?_, fun _ h => h.elim, fun _ h => h.elim⟩, hb54, ?_, fun h => h⟩ ?_
  · exact hR.ex hx24
  · intro b hb
    rcases foot_mem.1 hb with rfl | rfl | ⟨i, g, h1, _⟩
    · omega
    · omega
    · simp at h1
  · exact ⟨rfl, (fun a n c h => by cases h; exact Nat.le_refl _), Sl.nil _ _ _, fun i x g h1 _ => by simp [runA, regC] at h1⟩
  · intro hb; rcases foot_mem.1 hb with h | h | ⟨i, g, h1, _⟩ <;> first | omega | simp at h1
  rintro i w5 ⟨hi, hx05, hl45, gs, vL, fgs, A', hP, hb55, hn5, hA5⟩
  (repeat (first | refine lw_pure hT rfl ?_ | refine lw_nil ?_ | refine cw_seq ?_ | refine cw_region ?_ | refine qw_then ?_))
  refine cw_cond rfl (fun h => ?_) (fun h => ?_)
  · have hlt : i < l.length := by have := of_decide_eq_true h; omega
    obtain ⟨b, o, vb, vp, rfl, hbA, hrd, hat⟩ := hrow i hlt
    have hg := good i hi
    have hdo := fun (w6 : World) (hx : Ex w5 w6) => l23_do (A0 := fun b => A b ∧ b < w.heap.size) (vb := vb) (vp := vp) (a := l[i]) (hP.rep.ex hx) hg (by omega) (hP.frep.lt.ex hx) hg (by omega) (fun b hb => hP.dis b hb.1) (hat.ex (hx05.trans hx)) (hr.2 _ (List.getElem_mem hlt))
    have ec : (runA regC (l.take i)).carrier = ⟨#[99]⟩ := runA_carrier _ _
    rw [ec] at hdo
    have hl05 := hx05.size
    have hfl5 : ∀ b ∈ foot p m gs, b < w5.heap.size := fun b hb => hP.rep.foot_lt hb
    have hl55 := hb55.lt
    (repeat (first | refine cw_seq ?_ | refine qw_then ?_ | refine cw_skip ?_ | refine cw_block ?_))
    refine cw_then_cut (α := Nat × Value) (fun u => [(0, .slice (some ⟨b, o, none⟩) l.length cap), (1, .string who), (2, .string box), (7, pB p), (8, pB b5), (9, .int .i64 (i : Nat)), (10, pB u.1), (11, .bool true)])
      (fun u w' => Ext (· ∈ foot p m gs) w5 w' ∧ Blk w' u.1 (encR ⟨#[99]⟩ u.2) 28 ∧ ∃ gs' fgs' A'', PlayP w.heap.size w' (runA regC (l.take (i + 1))) p m gs' u.2 fgs' A'' ∧ (∀ x ∈ foot p m gs', x ∈ foot p m gs ∨ w5.heap.size ≤ x) ∧ (∀ x, A'' x → A' x ∨ w5.heap.size ≤ x)) ?_ ?_
    · unfold pB
      refine cw_draw hM (fun w' => Ex w5 w') [6] rfl rfl (by repeat (first | with_reducible refine nop_then ?_ | with_reducible refine nop_block ?_ | with_reducible exact nop_body)) (fun w6 hx6 _ => ⟨hx6, ?_⟩)
      (refine rw_takeP 0 rfl rfl (by kernel_rfl) (by kernel_rfl) (by kernel_rfl) (by kernel_rfl) rfl (yo_pure hT rfl) ?_)
      refine rw_take 1 rfl rfl (by kernel_rfl) (by kernel_rfl) (by kernel_rfl) (by kernel_rfl) rfl (yo_load_agg hT rfl rfl rfl (vs := encR ⟨#[99]⟩ vL) (fun w' hS => (hb55.ex hS).rd 0 2)) ?_
      (refine rw_takeP 2 rfl rfl (by kernel_rfl) (by kernel_rfl) (by kernel_rfl) (by kernel_rfl) rfl (yo_pure hT rfl) ?_; refine rw_takeP 3 rfl rfl (by kernel_rfl) (by kernel_rfl) (by kernel_rfl) (by kernel_rfl) rfl (yo_pure hT rfl) ?_)
      refine rw_takeP 4 rfl rfl (by kernel_rfl) (by kernel_rfl) (by kernel_rfl) (by kernel_rfl) rfl (yo_index hT rfl rfl rfl i rfl hlt) ?_
      refine rw_take 5 rfl rfl (by kernel_rfl) (by kernel_rfl) (by kernel_rfl) (by kernel_rfl) rfl (yo_load_agg hT rfl rfl rfl (vs := encAct l[i] vb vp) (fun w' hS => hrd.ex (hx05.trans hS))) ?_
      refine rw_two 6 10 rfl rfl (by kernel_rfl) rfl rfl (fun hcl => ?_) (fun hcl => ?_)
      · refine lw_call hT rfl rfl (hdo w6 hx6) ?_
        rintro _ w7 ⟨⟨gs', vL', fgs', bb, A'', rfl, hbb, hR', hf', hF', hd', hA''⟩, hx7⟩
        have hbt := hbb rfl
        subst hbt
        have hl6 := hx6.size
        have hl7 := hx7.size
        (repeat (refine lw_nil ?_))
        refine qw_rw (by repeat (first | with_reducible refine nop_then ?_ | with_reducible refine nop_block ?_ | with_reducible exact nop_body)) hcl (fun h => absurd h (by decide)) ?_
        (refine rw_takeP 7 rfl rfl (by kernel_rfl) (by kernel_rfl) (by kernel_rfl) (by kernel_rfl) rfl (yo_pure hT rfl) ?_; refine rw_takeP 8 rfl rfl (by kernel_rfl) (by kernel_rfl) (by kernel_rfl) (by kernel_rfl) rfl (yo_pure hT rfl) ?_; refine rw_takeP 9 rfl rfl (by kernel_rfl) (by kernel_rfl) (by kernel_rfl) (by kernel_rfl) rfl (yo_pure hT rfl) ?_)
        refine rw_one 10 rfl (by kernel_rfl) rfl (fun hcl => ?_)
        refine lw_alloc z28 ?_
        intro b7 w8 hbb7 hb7 hx8 hs8
        (repeat (refine lw_nil ?_))
        refine qw_rw (by repeat (first | with_reducible refine nop_then ?_ | with_reducible refine nop_block ?_ | with_reducible exact nop_body)) hcl (fun h => absurd h (by decide)) ?_
        refine rw_one 11 rfl (by kernel_rfl) rfl (fun hcl => ?_)
        refine lw_store_agg hT rfl rfl rfl rfl (by intro v hv; simp [encR] at hv; rcases hv with rfl | rfl <;> first | rfl | exact Sl.one hF'.sl) hb7 (show (2 : Nat) ≤ 2 by decide) ?_
        intro w9 hb79 hx9 hs9
        (repeat (refine lw_nil ?_))
        refine qw_rw (by repeat (first | with_reducible refine nop_then ?_ | with_reducible refine nop_block ?_ | with_reducible exact nop_body)) hcl (fun h => absurd h (by decide)) ?_
        (refine rw_takeP 12 rfl rfl (by kernel_rfl) (by kernel_rfl) (by kernel_rfl) (by kernel_rfl) rfl (yo_pure hT rfl) ?_)
        refine rw_done (by kernel_rfl) ?_
        skip
        replace hb79 : Blk w9 b7 (encR ⟨#[99]⟩ vL') 28 := by rw [← ec]; exact hb79
        have hx79 : Ex w7 w9 := hx8.up_new hx9 (fun i h => by omega)
        refine qw_cut (b7, vL') (by repeat (first | exact trivial | refine ⟨rfl, ?_⟩)) ⟨((Ext.of_ex hx6).trans hx7).trans (Ext.of_ex hx79), hb79, gs', fgs', A'', ⟨?_, ?_, ?_, ?_, ?_⟩, ?_, ?_⟩
        · rw [runA_take hlt]; exact hR'.ex hx79
        · intro x hx
          rcases hf' x hx with h | h
          · exact hP.new x h
          · omega
        · rw [runA_take hlt]; exact hF'.ex hx79
        · exact hd'
        · intro x hx
          rcases hA'' x hx with h | h
          · exact hP.newA x h.1
          · omega
        · intro x hx
          rcases hf' x hx with h | h
          · exact .inl h
          · exact .inr (by omega)
        · intro x hx
          rcases hA'' x hx with h | h
          · exact .inl h.1
          · exact .inr (by omega)
      · refine lw_alloc z28 ?_
        intro b7 w7 hbb7 hb7 hx7 hs7
        (repeat (refine lw_nil ?_))
        have hx57 := hx6.trans hx7
        refine qw_rw (by repeat (first | with_reducible refine nop_then ?_ | with_reducible refine nop_block ?_ | with_reducible exact nop_body)) hcl (fun _ => hx57) ?_
        refine rw_one 6 rfl (by kernel_rfl) rfl (fun hcl => ?_)
        refine lw_call hT rfl rfl (hdo w7 hx57) ?_
        rintro _ w8 ⟨⟨gs', vL', fgs', bb, A'', rfl, hbb, hR', hf', hF', hd', hA''⟩, hx8⟩
        have hbt := hbb rfl
        subst hbt
        have hl6 := hx6.size
        have hl8 := hx8.size
        have hb78 := hb7.ext hx8 (fun h => by have := hfl5 _ h; omega)
        (repeat (refine lw_nil ?_))
        refine qw_rw (by repeat (first | with_reducible refine nop_then ?_ | with_reducible refine nop_block ?_ | with_reducible exact nop_body)) hcl (fun h => absurd h (by decide)) ?_
        (refine rw_takeP 7 rfl rfl (by kernel_rfl) (by kernel_rfl) (by kernel_rfl) (by kernel_rfl) rfl (yo_pure hT rfl) ?_; refine rw_takeP 8 rfl rfl (by kernel_rfl) (by kernel_rfl) (by kernel_rfl) (by kernel_rfl) rfl (yo_pure hT rfl) ?_; refine rw_takeP 9 rfl rfl (by kernel_rfl) (by kernel_rfl) (by kernel_rfl) (by kernel_rfl) rfl (yo_pure hT rfl) ?_)
        refine rw_one 11 rfl (by kernel_rfl) rfl (fun hcl => ?_)
        refine lw_store_agg hT rfl rfl rfl rfl (by intro v hv; simp [encR] at hv; rcases hv with rfl | rfl <;> first | rfl | exact Sl.one hF'.sl) hb78 (show (2 : Nat) ≤ 2 by decide) ?_
        intro w9 hb79 hx9 hs9
        (repeat (refine lw_nil ?_))
        refine qw_rw (by repeat (first | with_reducible refine nop_then ?_ | with_reducible refine nop_block ?_ | with_reducible exact nop_body)) hcl (fun h => absurd h (by decide)) ?_
        (refine rw_takeP 12 rfl rfl (by kernel_rfl) (by kernel_rfl) (by kernel_rfl) (by kernel_rfl) rfl (yo_pure hT rfl) ?_)
        refine rw_done (by kernel_rfl) ?_
        skip
        replace hb79 : Blk w9 b7 (encR ⟨#[99]⟩ vL') 28 := by rw [← ec]; exact hb79
        have hb7f : b7 ∉ foot p m gs' := fun h => by
          rcases hf' _ h with h | h
          · have := hfl5 _ h; omega
          · omega
        have hb7A : ¬ A'' b7 := fun h => by
          rcases hA'' _ h with h | h
          · have := h.2; omega
          · omega
        refine qw_cut (b7, vL') (by repeat (first | exact trivial | refine ⟨rfl, ?_⟩)) ⟨((Ext.of_ex hx57).trans hx8).up_new hx9 (fun i h => by omega), hb79, gs', fgs', A'', ⟨?_, ?_, ?_, ?_, ?_⟩, ?_, ?_⟩
        · rw [runA_take hlt]; exact hR'.frame hx9 (fun b hb e => hb7f (e ▸ hb))
        · intro x hx
          rcases hf' x hx with h | h
          · exact hP.new x h
          · omega
        · rw [runA_take hlt]; exact hF'.ext hx9 (fun b hb e => hb7A (e ▸ hb))
        · exact hd'
        · intro x hx
          rcases hA'' x hx with h | h
          · exact hP.newA x h.1
          · omega
        · intro x hx
          rcases hf' x hx with h | h
          · exact .inl h
          · exact .inr (by omega)
        · intro x hx
          rcases hA'' x hx with h | h
          · exact .inl h.1
          · exact .inr (by omega)
    · rintro ⟨b7, vL'⟩ w6 ⟨hx6, hb7, gs', fgs', A'', hP', hf', hA''⟩
      dsimp only at hb7 hP' ⊢
      unfold pB
      have hl6 := hx6.size
      have hb56 := hb55.ext hx6 hn5
      have hn5' : b5 ∉ foot p m gs' := fun h => by
        rcases hf' _ h with h | h
        · exact hn5 h
        · omega
      have hA5' : ¬ A'' b5 := fun h => by
        rcases hA'' _ h with h | h
        · exact hA5 h
        · omega
      (repeat (first | refine cw_seq ?_ | refine cw_region ?_ | refine qw_then ?_))
      refine lw_load_agg hT rfl rfl rfl (vs := encR ⟨#[99]⟩ vL') (hb7.rd 0 2) ?_
      skip
      refine lw_store_agg hT rfl rfl rfl rfl (by intro v hv; simp [encR] at hv; rcases hv with rfl | rfl <;> first | rfl | exact Sl.one hP'.frep.sl) hb56 (show (2 : Nat) ≤ 2 by decide) ?_
      intro w7 hb57 hx7 hs7
      replace hb57 : Blk w7 b5 (encR ⟨#[99]⟩ vL') 28 := hb57
      have hx07 : Ex w w7 := (hx05.up_new hx6 (fun x hx => hP.new x hx)).up_new hx7 (fun i h => by omega)
      have hP7 : PlayP w.heap.size w7 (runA regC (l.take (i + 1))) p m gs' vL' fgs' A'' := ⟨hP'.rep.frame hx7 (fun b hb e => hn5' (e ▸ hb)), hP'.new, hP'.frep.ext hx7 (fun b hb e => hA5' (e ▸ hb)), hP'.dis, hP'.newA⟩
      have hU := l23_Unlike hP7.rep (good (i + 1) (by omega)) (by omega) hP7.frep who box
      rw [runA_carrier] at hU
      (repeat (first | refine lw_pure hT rfl ?_ | refine lw_nil ?_ | refine cw_seq ?_ | refine cw_region ?_ | refine qw_then ?_ | (refine lw_gon_f rfl ?_ ?_; focus (first | with_reducible rfl | with_reducible exact Bool.not_false | with_reducible exact Bool.not_true))))
      refine lw_load_agg hT rfl rfl rfl (vs := encR ⟨#[99]⟩ vL') (hb57.rd 0 2) ?_
      (repeat (first | refine lw_pure hT rfl ?_ | (refine lw_gon_f rfl ?_ ?_; focus (first | with_reducible rfl | with_reducible exact Bool.not_false | with_reducible exact Bool.not_true))))
      refine lw_call hT rfl rfl hU ?_
      rintro _ w8 ⟨rfl, hx8⟩
      (repeat (first | refine lw_pure hT rfl ?_ | refine lw_nil ?_ | refine qw_then ?_ | (refine lw_gon_f rfl ?_ ?_; focus (first | with_reducible rfl | with_reducible exact Bool.not_false | with_reducible exact Bool.not_true))))
      refine cw_cond rfl (fun e => absurd e (by decide)) (fun _ => ?_)
      (repeat (first | (refine lw_add rfl rfl ?_ ?_ ?_; iterate 2 omega) | refine lw_pure hT rfl ?_ | refine lw_nil ?_ | refine cw_region ?_ | refine qw_then ?_ | refine cw_skip ?_ | refine qw_block ?_))
      refine qw_round (i + 1) (by repeat (first | exact trivial | refine ⟨rfl, ?_⟩)) ⟨hlt, hx07.trans hx8, by have := hx7.size; have := hx8.size; omega, gs', vL', fgs', A'', ⟨hP7.rep.ex hx8, hP7.new, hP7.frep.ex hx8, hP7.dis, hP7.newA⟩, hb57.ex hx8, hn5', hA5'⟩ (by omega)
  · (repeat (first | refine lw_pure hT rfl ?_ | refine lw_nil ?_ | refine cw_seq ?_ | refine cw_region ?_ | refine qw_then ?_ | refine cw_ret ?_ | refine cw_exit ?_ | refine qw_block_exit ?_ | refine qw_then_exit ?_))
    exact qw_ret rfl ⟨rfl, hx00.trans hx05⟩
end Go.Proofs.YtfbjpfgglgffgaaGreat
