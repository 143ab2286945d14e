/- supercargolaw23.RegisterHolders, walked: it answers true, whatever it is given. -/
import Derived.Test.YtfbjpfgglgffgaaGreatHd
import Derived.Test.YtfbjpfgglgffgaaGreatGi
import Derived.Test.YtfbjpfgglgffgaaGreatGk
import Derived.Test.YtfbjpfgglgffgaaGreatEb
set_option linter.unusedVariables false
set_option linter.unusedSimpArgs false
set_option linter.unusedSectionVars false
set_option linter.unnecessarySimpa false
namespace Go.Proofs.YtfbjpfgglgffgaaGreat
open Go Go.SK

/-! ### Who held an original first -/
def TelP (f : ByteArray) (e : EntD) : Prop := ∀ q ∈ e.ps, firstOf q = f ∧ ∀ x ∈ q.chain, x.kind = 0
theorem tel_of {f : ByteArray} {e e' : EntD} (h : TelP f e) (hq : ∀ q' ∈ e'.ps, ∃ q ∈ e.ps, q'.chain = q.chain ∧ q'.holder = q.holder) : TelP f e' := fun q' hq' => by
  obtain ⟨q, hm, h1, h2⟩ := hq q' hq'
  obtain ⟨h3, h4⟩ := h q hm
  have e1 : firstOf q' = firstOf q := by unfold firstOf; rw [h1, h2]
  exact ⟨e1.trans h3, by rw [h1]; exact h4⟩
theorem onIx_state {l : List Nat} {s : Int} {ps : List PapD} {q' : PapD} (h : q' ∈ onIx l (stateP s) ps) : ∃ q ∈ ps, q'.chain = q.chain ∧ q'.holder = q.holder := by
  obtain ⟨i, q, hi, rfl⟩ := onIx_mem h
  refine ⟨q, List.mem_of_getElem? hi, ?_⟩
  split <;> exact ⟨rfl, rfl⟩
theorem tel_after {f : ByteArray} {e : EntD} {a : ActD} (h : TelP f e) (hk : 1 ≤ a.kind ∧ a.kind ≤ 5) (hask : askE e a.ask = 0) : TelP f (e.after a) := by
  obtain ⟨_, _, h3, _, _⟩ := ask_iff.1 hask
  have hks : a.kind = 1 ∨ a.kind = 2 ∨ a.kind = 3 ∨ a.kind = 4 ∨ a.kind = 5 := by omega
  rcases hks with hk | hk | hk | hk | hk
  · have ea : e.after a = { e with ps := onIx (ixs a.index) (endorseP a.by_ a.to_ a.day) e.ps } := by simp [EntD.after, hk]
    have eask : a.ask = ⟨a.bill, a.by_, a.index, 0, true, a.day, a.to_, true⟩ := by simp [ActD.ask, hk]
    rw [eask] at h3
    rw [ea]
    intro q' hq'
    obtain ⟨i, q, hi, rfl⟩ := onIx_mem hq'
    obtain ⟨h4, h5⟩ := h q (List.mem_of_getElem? hi)
    split
    · next hc =>
      have h6 := (h3 i (by simpa using hc)).2
      rw [papAt_of hi] at h6
      have h6 : q.holder = a.by_ := h6
      refine ⟨?_, fun x hx => ?_⟩
      · rw [← h4, ← h6]
        cases hc : q.chain <;> simp [firstOf, endorseP, hc]
      · simp only [endorseP, List.mem_append, List.mem_singleton] at hx
        rcases hx with hx | rfl
        · exact h5 x hx
        · rfl
    · exact ⟨h4, h5⟩
  · have ea : e.after a = { e with state := 1, ps := onIx (ixs a.index) (stateP 1) (e.ps.map (stateP 2)) } := by simp [EntD.after, hk]
    rw [ea]
    refine tel_of h fun q' hq' => ?_
    obtain ⟨q, hq, h1, h2⟩ := onIx_state hq'
    obtain ⟨q0, hq0, rfl⟩ := List.mem_map.1 hq
    exact ⟨q0, hq0, h1, h2⟩
  · have ea : e.after a = { e with ps := onIx (ixs a.index) (stateP 3) e.ps } := by simp [EntD.after, hk]
    rw [ea]
    exact tel_of h fun q' hq' => onIx_state hq'
  · have ea : e.after a = { e with ps := onIx (ixs a.index) (stateP 0) e.ps } := by simp [EntD.after, hk]
    rw [ea]
    exact tel_of h fun q' hq' => onIx_state hq'
  · have ea : e.after a = { e with state := 4, ps := e.ps.map (stateP 2) } := by simp [EntD.after, hk]
    rw [ea]
    refine tel_of h fun q' hq' => ?_
    obtain ⟨q0, hq0, rfl⟩ := List.mem_map.1 hq'
    exact ⟨q0, hq0, rfl, rfl⟩
def FirstP (r : RegD) (es : List (ByteArray × Value)) : Prop :=
  (∀ e ∈ r.l, ∃ f, mget es e.bill.number = some (.string f) ∧ TelP f e) ∧ ∀ s v, mget es s = some v → ∃ e ∈ r.l, e.bill.number = s
theorem first_do {k : Nat} {r : RegD} {es : List (ByteArray × Value)} (hG : Good k r) (h : FirstP r es) {a : ActD} (hk : 1 ≤ a.kind ∧ a.kind ≤ 5) : FirstP (doA r a) es := by
  unfold doA
  rw [if_neg (by omega)]
  split
  · next hask =>
    refine ⟨fun e' he' => ?_, fun s v hs => ?_⟩
    · simp only [RegD.upd] at he'
      obtain ⟨e, he, rfl⟩ := List.mem_map.1 he'
      obtain ⟨f, h1, h2⟩ := h.1 e he
      by_cases hn : a.bill = e.bill.number
      · rw [if_pos hn, after_bill]
        refine ⟨f, h1, tel_after h2 hk ?_⟩
        have hat := at_self hG.nd he
        unfold askC at hask
        rw [ask_bill hk, hn, hat] at hask
        exact hask
      · rw [if_neg hn]; exact ⟨f, h1, h2⟩
    · obtain ⟨e, he, h1⟩ := h.2 s v hs
      simp only [RegD.upd]
      refine ⟨_, List.mem_map.2 ⟨e, he, rfl⟩, ?_⟩
      split
      · rw [after_bill]; exact h1
      · exact h1
  · exact h
theorem mget_snoc (es : List (ByteArray × Value)) (k : ByteArray) (v : Value) (n : ByteArray) : mget (es ++ [(k, v)]) n = match mget es n with | some u => some u | none => if n = k then some v else none := by
  unfold mget
  rw [List.find?_append]
  cases hf : es.find? (fun e => decide (n = e.1)) with
  | some u => simp
  | none =>
    by_cases h : n = k
    · simp [h]
    · simp [h]
theorem issue_new {r : RegD} {b : BillD} {holder : ByteArray} (h : issueC r b holder = 0) : ∀ e ∈ r.l, b.number ≠ e.bill.number := by
  unfold issueC at h
  split at h
  · cases h
  · split at h
    · cases h
    · next h1 =>
      have : r.at? b.number = none := by simpa using h1
      exact at_none this
theorem first_issue {r : RegD} {es : List (ByteArray × Value)} (h : FirstP r es) {b : BillD} {holder : ByteArray} (hc : issueC r b holder = 0) : mget es b.number = none ∧ FirstP (issueD r b holder) (es ++ [(b.number, .string holder)]) := by
  have hnew := issue_new hc
  have hnone : mget es b.number = none := by
    cases hm : mget es b.number with
    | none => rfl
    | some v =>
      obtain ⟨e, he, h1⟩ := h.2 _ _ hm
      exact absurd h1.symm (hnew e he)
  refine ⟨hnone, ?_⟩
  unfold issueD
  rw [if_pos hc]
  refine ⟨fun e he => ?_, fun s v hs => ?_⟩
  · rcases List.mem_append.1 he with he | he
    · obtain ⟨f, h1, h2⟩ := h.1 e he
      exact ⟨f, by rw [mget_snoc, h1], h2⟩
    · have := List.mem_singleton.1 he
      subst this
      refine ⟨holder, by rw [mget_snoc]; show (match mget es b.number with | some u => some u | none => _) = _; rw [hnone]; exact if_pos rfl, fun q hq => ?_⟩
      simp only [newEnt, List.mem_cons, List.not_mem_nil, or_false, or_self] at hq
      subst hq
      exact ⟨rfl, fun x hx => by simp at hx⟩
  · rw [mget_snoc] at hs
    cases hm : mget es s with
    | some u =>
      obtain ⟨e, he, h1⟩ := h.2 _ _ hm
      exact ⟨e, List.mem_append_left _ he, h1⟩
    | none =>
      rw [hm] at hs
      by_cases hk : s = b.number
      · exact ⟨newEnt b holder, List.mem_append_right _ (by simp), hk.symm⟩
      · simp [hk] at hs
theorem PapInv.follow {q : PapD} (h : PapInv q) {f : ByteArray} (hf : firstOf q = f) : followC f q.chain = (⟨q.holder, false, false, lastOf q⟩, q.chain.length, 0) := by
  subst hf; unfold followC; rw [if_pos h.fname, h.go]
/-- endorse.Blank of a chain that is nowhere in blank. -/
theorem end_Blank {A : Nat → Prop} {v : Value} {l : List EndD} (w : World) (hS : SlE A w v l) (hk : ∀ x ∈ l, x.kind = 0) : Ret Tryz.prog 22 [v] w fun u w' => u = .bool false ∧ w = w' := by
  obtain ⟨a, c, rfl, _, hr⟩ := hS.is
  have hsm := hS.small
  simp only [List.length_map] at *
  unfold maxLen at hsm
  refine ret_of Tryz.func22 Tryz.ntmps22 rfl rfl rfl ?_
  (repeat (first | refine lw_pure hT rfl ?_ | refine lw_nil ?_ | refine cw_seq ?_ | refine cw_region ?_ | refine qw_then ?_))
  refine lw_guard rfl (fun e => ?_) (fun e => ?_)
  · have h0 : 0 < l.length := by have := of_decide_eq_true e; omega
    have hne : l.map encE ≠ [] := by intro e; simp at e; rw [e] at h0; simp at h0
    obtain ⟨b, o, rfl, _, hrd⟩ := hr hne
    have hl : l.length - 1 < l.length := by omega
    have hrow := (hrd (l.length - 1) (encE l[l.length - 1]) (by simp [hl])).2
    (repeat (first | (refine lw_sub rfl rfl ?_ ?_ ?_; iterate 2 omega) | refine lw_pure hT rfl ?_ | (refine lw_gon_t rfl ?_ ?_; focus (first | with_reducible rfl | with_reducible exact Bool.not_false | with_reducible exact Bool.not_true))))
    refine lw_index hT rfl rfl rfl (l.length - 1) (by omega) hl ?_
    (repeat (first | refine lw_pure hT rfl ?_ | (refine lw_gon_t rfl ?_ ?_; focus (first | with_reducible rfl | with_reducible exact Bool.not_false | with_reducible exact Bool.not_true))))
    refine lw_load hT rfl rfl (v := .int .i64 0) (by have := hrow 2 _ rfl; rw [hk _ (List.getElem_mem hl)] at this; exact this) ?_
    (repeat (first | refine lw_pure hT rfl ?_ | refine lw_nil ?_ | refine qw_then ?_ | refine cw_ret ?_ | (refine lw_gon_t rfl ?_ ?_; focus (first | with_reducible rfl | with_reducible exact Bool.not_false | with_reducible exact Bool.not_true))))
    exact qw_ret rfl ⟨rfl, rfl⟩
  · (repeat (first | refine lw_pure hT rfl ?_ | refine lw_nil ?_ | refine qw_then ?_ | refine cw_ret ?_ | (refine lw_goff_f rfl ?_ ?_; focus (first | with_reducible rfl | with_reducible exact Bool.not_false | with_reducible exact Bool.not_true))))
    exact qw_ret rfl ⟨rfl, rfl⟩
set_option maxHeartbeats 8000000 in
theorem l23_Holders {A : Nat → Prop} {w0 : World} {v : Value} {l : List ActD} (h1 : ActsAt A w0 v l) :
    Ret Tryz.prog 4 [v] w0 fun v w' => v = .bool true ∧ Ex w0 w' := by
  obtain ⟨pv_, cap, rfl, hm, _⟩ := h1.is
  have hmm_ := hm
  unfold maxLen at hmm_
  refine ret_of Tryz.func4 Tryz.ntmps4 rfl rfl rfl ?_
  (repeat (first | refine lw_pure hT rfl ?_ | refine lw_nil ?_ | refine cw_seq ?_ | refine cw_region ?_ | refine qw_then ?_))
  refine lw_call hT rfl rfl (l23_awake w0) ?_
  rintro _ wa ⟨rfl, hxa⟩
  (repeat (first | refine lw_pure hT rfl ?_ | refine lw_nil ?_ | refine cw_seq ?_ | refine cw_region ?_ | refine qw_then ?_ | refine cw_skip ?_ | (refine cw_cond_f rfl ?_ ?_; focus (first | with_reducible rfl | with_reducible exact Bool.not_false | with_reducible exact Bool.not_true))))
  refine lw_call hT rfl rfl (l23_right (h1.ex hxa)) ?_
  rintro _ w ⟨⟨b1, rfl, hr⟩, hxb⟩
  (repeat (first | refine lw_pure hT rfl ?_ | refine lw_nil ?_ | refine qw_then ?_))
  have hx00 := hxa.trans hxb
  refine cw_cond rfl (fun e => ?_) (fun e => ?_)
  · (repeat (first | refine lw_pure hT rfl ?_ | refine lw_nil ?_ | refine cw_seq ?_ | refine cw_region ?_ | refine qw_then ?_ | refine cw_ret ?_ | refine qw_then_ret ?_))
    exact qw_ret rfl ⟨rfl, hx00⟩
  replace hr := hr (by simpa using e)
  have hA := h1.ex hx00
  have hlen := hr.1.1
  obtain ⟨_, _, hve, _, hrow⟩ := hA.is
  simp only [Value.slice.injEq] at hve
  obtain ⟨rfl, _, rfl⟩ := hve
  have good : ∀ i, i ≤ l.length → Good i (runA regC (l.take i)) := fun i hi => by
    have := good_run (l := l.take i) (good_new ⟨#[99]⟩) (fun a ha => hA.ok a (List.mem_of_mem_take ha)) (fun a ha => hr.2 a (List.mem_of_mem_take ha))
    have e : (l.take i).length = i := by simp; omega
    rw [e, Nat.zero_add] at this
    exact this
  (repeat (first | refine cw_seq ?_ | refine cw_region ?_ | refine qw_then ?_ | refine cw_skip ?_))
  refine lw_call hT rfl rfl (reg_New w ⟨#[99]⟩) ?_
  rintro _ w2 ⟨p, m, rfl, hR, hp, hmm, hx2⟩
  (repeat (first | refine lw_pure hT rfl ?_ | refine lw_nil ?_ | refine cw_seq ?_ | refine cw_region ?_ | refine qw_then ?_ | refine cw_skip ?_ | (refine cw_cond_f rfl ?_ ?_; focus (first | with_reducible rfl | with_reducible exact Bool.not_false | with_reducible exact Bool.not_true)) | refine lw_eqp_some hT rfl rfl ?_))
  refine lw_makeMap ?_
  intro b42 w3 hbb3 hm3 hx3 hs3
  have hl2 := hx2.size
  have hpl := hR.blk.lt
  obtain ⟨es0, hMp, _⟩ := hR.map
  have hml := hMp.lt
  (repeat (first | refine lw_pure hT rfl ?_ | refine lw_nil ?_ | refine cw_seq ?_ | refine cw_region ?_ | refine qw_then ?_ | refine cw_block ?_))
  refine cw_loop (fun i : Nat => [(0, .slice pv_ l.length cap), (3, pB p), (4, .map (some b42)), (5, .int .i64 (i : Nat))])
    (fun i w' => i ≤ l.length ∧ Ex w w' ∧ ∃ gs es, Rep w' p (runA regC (l.take i)) m gs ∧ (∀ b ∈ foot p m gs, w.heap.size ≤ b) ∧ b42 ∉ foot p m gs ∧ Mp w' b42 es ∧ FirstP (runA regC (l.take i)) es)
    (fun i => l.length - i) 0 (by repeat (first | exact trivial | refine ⟨rfl, ?_⟩)) ⟨Nat.zero_le _, hx2.trans hx3, [], [], hR.ex hx3, ?_, ?_, hm3, ?_⟩ ?_
  · intro b hb
    rcases foot_mem.1 hb with rfl | rfl | ⟨i, g, h1, _⟩
    · omega
    · omega
    · simp at h1
  · intro hb; rcases foot_mem.1 hb with h | h | ⟨i, g, h1, _⟩ <;> first | omega | simp at h1
  · exact ⟨fun e he => by simp [runA, regC] at he, fun s v hs => by simp [mget] at hs⟩
  rintro i w5 ⟨hi, hx05, gs, es, hR5, hf5, hn5, hm5, hF5⟩
  have hb42l := hm5.lt
  unfold pB
  (repeat (first | refine lw_pure hT rfl ?_ | refine lw_nil ?_ | refine cw_seq ?_ | refine cw_region ?_ | refine qw_then ?_))
  refine cw_cond rfl (fun e => ?_) (fun e => ?_)
  · have hlt : i < l.length := by have := of_decide_eq_true e; omega
    obtain ⟨b, o, vb, vp, rfl, hbA, hrd, hat⟩ := hrow i hlt
    have hk05 := hr.2 _ (List.getElem_mem hlt)
    have hgi := good i hi
    have hgi' := good (i + 1) (by omega)
    have hrun := runA_take (r := regC) hlt
    rw [hrun] at hgi'
    obtain ⟨r, hr_⟩ : ∃ r, r = runA regC (l.take i) := ⟨_, rfl⟩
    rw [← hr_] at hgi hgi' hrun hR5 hF5
    generalize ha : l[i] = a at hrd hat hk05 hgi' hrun
    have hl05 := hx05.size
    (repeat (first | refine lw_pure hT rfl ?_ | refine cw_seq ?_ | refine cw_region ?_ | refine qw_then ?_ | refine cw_skip ?_ | refine cw_block ?_))
    refine lw_index hT rfl rfl rfl i rfl hlt ?_
    skip
    refine lw_load_agg hT rfl rfl rfl (vs := encAct a vb vp) (hrd.ex hx05) ?_
    skip
    refine lw_alloc z44 ?_
    intro b6 w6 hbb6 hb6 hx6 hs6
    skip
    refine lw_store_agg hT rfl rfl rfl rfl (encAct_one hat) hb6 (show (15 : Nat) ≤ 15 by decide) ?_
    intro w7 hb67 hx7 hs7
    replace hb67 : Blk w7 b6 (encAct a vb vp) 44 := hb67
    have hx57 : Ex w5 w7 := hx6.up_new hx7 (fun i h => by omega)
    have hx07 := hx05.trans hx57
    have hR7 := hR5.ex hx57
    have hm7 := hm5.ex hx57
    have hat7 := hat.ex hx07
    have hfl5 : ∀ b ∈ foot p m gs, b < w5.heap.size := fun b hb => hR5.foot_lt hb
    have hl57 := hx57.size
    have hb6l := hb67.lt
    obtain ⟨r1, hr1⟩ : ∃ r1, r1 = if a.kind = 0 then doA r a else r := ⟨_, rfl⟩
    refine lw_nil ?_
    refine qw_then ?_
    refine cw_seq ?_
    refine cw_then_cut (α := Unit) (fun _ => [(0, .slice (some ⟨b, o, none⟩) l.length cap), (3, pB p), (4, .map (some b42)), (5, .int .i64 (i : Nat)), (6, pB b6)])
      (fun _ w' => Ex w w' ∧ ∃ gs' es', Rep w' p r1 m gs' ∧ (∀ b ∈ foot p m gs', w.heap.size ≤ b) ∧ b42 ∉ foot p m gs' ∧ Blk w' b6 (encAct a vb vp) 44 ∧ Mp w' b42 es' ∧ FirstP r1 es') ?_ ?_
    · unfold pB
      (repeat (first | refine lw_pure hT rfl ?_ | refine cw_seq ?_ | refine cw_region ?_))
      refine lw_load hT rfl rfl (v := .int .i64 a.kind) (hb67.cell 0) ?_
      (repeat (refine lw_pure hT rfl ?_))
      refine lw_guard rfl (fun ek => ?_) (fun ek => ?_)
      · have ek : a.kind = 0 := of_decide_eq_true ek
        rw [if_pos ek] at hr1
        have edo : doA r a = issueD r a.b a.to_ := by unfold doA; rw [if_pos ek]
        rw [edo] at hr1
        (repeat (first | refine lw_pure hT rfl ?_ | (refine lw_gon_t rfl ?_ ?_; focus (first | with_reducible rfl | with_reducible exact Bool.not_false | with_reducible exact Bool.not_true))))
        refine lw_load_agg hT rfl rfl rfl (vs := encB a.b vb vp) (hb67.rd 6 9) ?_
        (repeat (first | refine lw_pure hT rfl ?_ | (refine lw_gon_t rfl ?_ ?_; focus (first | with_reducible rfl | with_reducible exact Bool.not_false | with_reducible exact Bool.not_true))))
        refine lw_load hT rfl rfl (v := .string a.to_) (hb67.cell 5) ?_
        (repeat (refine lw_gon_t rfl ?_ ?_; focus (first | with_reducible rfl | with_reducible exact Bool.not_false | with_reducible exact Bool.not_true)))
        refine lw_call hT rfl rfl (reg_Issue hR7 hat7.boxes hat7.parents hat7.ok.b a.to_ hat7.ok.to_) ?_
        rintro _ w8 ⟨rfl, hmu⟩
        obtain ⟨gs', hR8, hf8⟩ := hmu.is
        rw [← hr1] at hR8
        have hx08 : Ex w w8 := hx07.up_new hmu.ext hf5
        have hl78 := hmu.ext.size
        have hm8 := hm7.ext hmu.ext hn5
        have hb68 := hb67.ext hmu.ext (fun h => by have := hfl5 _ h; omega)
        have hf8' : ∀ b ∈ foot p m gs', w.heap.size ≤ b := fun b hb => by
          rcases hf8 b hb with h | h
          · exact hf5 b h
          · omega
        have hn8 : b42 ∉ foot p m gs' := fun h => by
          rcases hf8 _ h with h | h
          · exact hn5 h
          · omega
        (repeat (first | refine lw_pure hT rfl ?_ | refine lw_nil ?_ | refine qw_then ?_ | (refine lw_gon_t rfl ?_ ?_; focus (first | with_reducible rfl | with_reducible exact Bool.not_false | with_reducible exact Bool.not_true))))
        refine cw_cond rfl (fun ec => ?_) (fun ec => ?_)
        · have ec : issueC r a.b a.to_ = 0 := of_decide_eq_true ec
          obtain ⟨hnone, hF8⟩ := first_issue hF5 ec
          rw [← hr1] at hF8
          (repeat (first | refine lw_pure hT rfl ?_ | refine cw_region ?_))
          refine lw_load hT rfl rfl (v := .string a.b.number) (hb68.cell 6) ?_
          (repeat (refine lw_pure hT rfl ?_))
          refine lw_load hT rfl rfl (v := .string a.to_) (hb68.cell 5) ?_
          skip
          refine lw_mapUpdate mp42 rfl rfl rfl hm8 hnone ?_
          intro w9 hm9 hx9 hs9
          (repeat (refine lw_nil ?_))
          exact qw_cut () (by repeat (first | exact trivial | refine ⟨rfl, ?_⟩)) ⟨hx08.up_new hx9 (fun x hx => by omega), gs', _, hR8.frame hx9 (fun b hb e => hn8 (e ▸ hb)), hf8', hn8, hb68.ext hx9 (by omega), hm9, hF8⟩
        · have ec : ¬ issueC r a.b a.to_ = 0 := of_decide_eq_false ec
          have er : r1 = r := by rw [hr1]; unfold issueD; rw [if_neg ec]
          (repeat (refine cw_skip ?_))
          exact qw_cut () (by repeat (first | exact trivial | refine ⟨rfl, ?_⟩)) ⟨hx08, gs', es, hR8, hf8', hn8, hb68, hm8, by rw [er]; exact hF5⟩
      · have ek : ¬ a.kind = 0 := of_decide_eq_false ek
        rw [if_neg ek] at hr1
        subst hr1
        (repeat (first | refine lw_pure hT rfl ?_ | refine lw_nil ?_ | refine qw_then ?_ | refine cw_skip ?_ | (refine lw_goff_f rfl ?_ ?_; focus (first | with_reducible rfl | with_reducible exact Bool.not_false | with_reducible exact Bool.not_true)) | (refine cw_cond_f rfl ?_ ?_; focus (first | with_reducible rfl | with_reducible exact Bool.not_false | with_reducible exact Bool.not_true))))
        exact qw_cut () (by repeat (first | exact trivial | refine ⟨rfl, ?_⟩)) ⟨hx07, gs, es, hR7, hf5, hn5, hb67, hm7, hF5⟩
    rintro _ w8 ⟨hx08, gs1, es1, hR8, hf8, hn8, hb68, hm8, hF8⟩
    have hat8 := hat.ex hx08
    have hfl8 : ∀ b ∈ foot p m gs1, b < w8.heap.size := fun b hb => hR8.foot_lt hb
    have hl08 := hx08.size
    have hb42l8 := hm8.lt
    unfold pB
    refine qw_then ?_
    refine cw_seq ?_
    refine cw_then_cut (α := Unit) (fun _ => [(0, .slice (some ⟨b, o, none⟩) l.length cap), (3, pB p), (4, .map (some b42)), (5, .int .i64 (i : Nat))])
      (fun _ w' => Ex w w' ∧ ∃ gs', Rep w' p (doA r a) m gs' ∧ (∀ b ∈ foot p m gs', w.heap.size ≤ b) ∧ b42 ∉ foot p m gs' ∧ Mp w' b42 es1 ∧ FirstP (doA r a) es1) ?_ ?_
    · unfold pB
      (repeat (first | refine lw_pure hT rfl ?_ | refine cw_seq ?_ | refine cw_region ?_))
      refine lw_load hT rfl rfl (v := .int .i64 a.kind) (hb68.cell 0) ?_
      (repeat (first | refine lw_pure hT rfl ?_ | refine lw_nil ?_ | refine qw_then ?_))
      refine cw_cond rfl (fun ek => ?_) (fun ek => ?_)
      · have ek : 0 < a.kind := of_decide_eq_true ek
        rw [if_neg (by omega)] at hr1
        subst hr1
        (repeat (first | refine lw_pure hT rfl ?_ | refine cw_region ?_))
        refine lw_build bt28 rfl ?_
        skip
        refine lw_load_agg hT rfl rfl rfl (vs := encAct a vb vp) (hb68.rd 0 15) ?_
        skip
        refine lw_call hT rfl rfl (l23_do (A := fun _ => False) (M := ⟨⟨#[]⟩, []⟩) (vL := .slice none 0 0) (fgs := []) hR8 hgi (by omega) ⟨rfl, (fun a n c h => by cases h; exact Nat.le_refl _), Sl.nil _ _ _, fun i x g h1 _ => by simp at h1⟩ (good_new ⟨#[]⟩) (by omega) (fun _ h => h.elim) hat8 hk05) ?_
        rintro _ w9 ⟨⟨gs', vL', fgs', bb, A'', rfl, hbb, hR', hf', _, _, _⟩, hx9⟩
        have hl89 := hx9.size
        (repeat (refine lw_nil ?_))
        refine qw_cut () (by repeat (first | exact trivial | refine ⟨rfl, ?_⟩)) ⟨hx08.up_new hx9 (fun x hx => hf8 x hx), gs', hR', fun x hx => ?_, fun h => ?_, hm8.ext hx9 hn8, first_do hgi hF8 ⟨by omega, hk05.2⟩⟩
        · rcases hf' x hx with h | h
          · exact hf8 x h
          · omega
        · rcases hf' _ h with h | h
          · exact hn8 h
          · omega
      · have ek : ¬ 0 < a.kind := of_decide_eq_false ek
        rw [if_pos (by omega)] at hr1
        subst hr1
        (repeat (refine cw_skip ?_))
        exact qw_cut () (by repeat (first | exact trivial | refine ⟨rfl, ?_⟩)) ⟨hx08, gs1, hR8, hf8, hn8, hm8, hF8⟩
    rintro _ w9 ⟨hx09, gs2, hR9, hf9, hn9, hm9, hF9⟩
    obtain ⟨r2, hr2⟩ : ∃ r2, r2 = doA r a := ⟨_, rfl⟩
    rw [← hr2] at hR9 hF9 hgi' hrun
    have hl256 : r2.l.length ≤ 256 := by have := hgi'.len; omega
    have hsm := hgi'.small (by omega)
    unfold pB
    (repeat (first | refine lw_pure hT rfl ?_ | refine cw_seq ?_ | refine cw_region ?_ | refine qw_then ?_))
    refine lw_call hT rfl rfl (reg_Bills hR9 (fun e he => (hgi'.ent e he).ok.number) hl256) ?_
    rintro vb w10 ⟨⟨L, hL1, hL2, hown⟩, hx10⟩
    have hLl : L.length ≤ 256 := by have := hL2.length_eq; simp [RegD.nums] at this; omega
    have hsl : SlS (fun _ => True) w10 vb L := sls_own hown fun _ _ => trivial
    obtain ⟨a10, c10, rfl, _, hr10⟩ := hsl.is
    simp only [List.length_map] at *
    (repeat (first | refine lw_pure hT rfl ?_ | refine lw_nil ?_ | refine cw_seq ?_ | refine cw_region ?_ | refine qw_then ?_ | refine cw_block ?_))
    refine cw_loop (fun k : Nat => [(0, .slice (some ⟨b, o, none⟩) l.length cap), (3, pB p), (4, .map (some b42)), (5, .int .i64 (i : Nat)), (7, .slice a10 L.length c10), (8, .int .i64 (k : Nat))])
      (fun k w' => k ≤ L.length ∧ Ex w10 w') (fun k => L.length - k) 0 (by repeat (first | exact trivial | refine ⟨rfl, ?_⟩)) ⟨Nat.zero_le _, Ext.refl _ _⟩ ?_
    rintro k w11 ⟨hk, hx11⟩
    have hx911 := hx10.trans hx11
    unfold pB
    (repeat (first | refine lw_pure hT rfl ?_ | refine lw_nil ?_ | refine cw_seq ?_ | refine cw_region ?_ | refine qw_then ?_))
    refine cw_cond rfl (fun e => ?_) (fun e => ?_)
    · have hkl : k < L.length := by have := of_decide_eq_true e; omega
      have hne : L.map (fun s => [Value.string s]) ≠ [] := by intro e; simp at e; rw [e] at hkl; simp at hkl
      obtain ⟨bb, oo, rfl, _, hrd10⟩ := hr10 hne
      have hmem : L[k] ∈ r2.nums := hL2.mem_iff.1 (List.getElem_mem hkl)
      obtain ⟨x, hxm, hxn⟩ := List.mem_map.1 hmem
      have hatx : r2.at? x.bill.number = some x := at_self hgi'.nd hxm
      have rdk : ∀ w' : World, Ex w10 w' → w'.cell? ⟨bb, oo + k * 1, none⟩ = some (.string x.bill.number) := fun w' hx => by
        have := ((hrd10 k [.string L[k]] (by simp [hkl])).2.ex hx) 0 _ rfl
        rw [hxn]; exact this
      have h3 := (hgi'.ent x hxm).three
      obtain ⟨f, hfm, hft⟩ := hF9.1 x hxm
      (repeat (first | refine lw_pure hT rfl ?_ | refine cw_seq ?_ | refine cw_region ?_ | refine qw_then ?_ | refine cw_skip ?_ | refine cw_block ?_))
      refine lw_index hT rfl rfl rfl k rfl hkl ?_
      skip
      refine lw_load hT rfl rfl (v := .string x.bill.number) (rdk _ hx11) ?_
      skip
      refine lw_call hT rfl rfl (reg_Originals (hR9.ex hx911) x.bill.number) ?_
      rintro u12 w12 ⟨hu12, hx12⟩
      obtain ⟨g12, c12, rfl, _, hrow12⟩ := origs_row hatx h3 hu12
      have hx1012 := hx11.trans hx12
      (repeat (first | refine lw_pure hT rfl ?_ | refine lw_nil ?_ | refine cw_seq ?_ | refine cw_region ?_ | refine qw_then ?_ | refine cw_block ?_))
      refine cw_loop (fun j : Nat => [(0, .slice (some ⟨b, o, none⟩) l.length cap), (3, pB p), (4, .map (some b42)), (5, .int .i64 (i : Nat)), (7, .slice (some ⟨bb, oo, none⟩) L.length c10), (8, .int .i64 (k : Nat)), (9, .slice (some ⟨g12, 0, none⟩) 3 c12), (10, .int .i64 (j : Nat))])
        (fun j w' => j ≤ 3 ∧ Ex w12 w') (fun j => 3 - j) 0 (by repeat (first | exact trivial | refine ⟨rfl, ?_⟩)) ⟨Nat.zero_le _, Ext.refl _ _⟩ ?_
      rintro j w13 ⟨hj, hx13⟩
      have hx1013 := hx1012.trans hx13
      have hx913 := hx10.trans hx1013
      unfold pB
      (repeat (first | refine lw_pure hT rfl ?_ | refine lw_nil ?_ | refine cw_seq ?_ | refine cw_region ?_ | refine qw_then ?_))
      refine cw_cond rfl (fun e => ?_) (fun e => ?_)
      · have hj3 : j < 3 := by have := of_decide_eq_true e; omega
        have hq := papAt_get h3 hj3
        have hqm := List.mem_of_getElem? hq
        obtain ⟨hfq, hkq⟩ := hft _ hqm
        have hinv := hgi'.inv x hxm _ hqm
        have hfsz : f.size ≤ maxLen := by rw [← hfq]; exact hinv.fsize
        have hfol := hinv.follow hfq
        have hrow := fun (w' : World) (hx : Ex w13 w') => (hrow12 j hj3).ex (hx13.trans hx)
        (repeat (first | refine cw_seq ?_ | refine qw_then ?_ | refine cw_skip ?_ | refine cw_block ?_))
        refine cw_draw hM (fun w' => Ex w13 w') [] rfl rfl (by repeat (first | with_reducible refine nop_then ?_ | with_reducible refine nop_block ?_ | with_reducible exact nop_body)) (fun w14 hx14 _ => ⟨hx14, ?_⟩)
        (refine rw_takeP 0 rfl rfl (by kernel_rfl) (by kernel_rfl) (by kernel_rfl) (by kernel_rfl) rfl (yo_pure hT rfl) ?_; refine rw_takeP 1 rfl rfl (by kernel_rfl) (by kernel_rfl) (by kernel_rfl) (by kernel_rfl) rfl (yo_pure hT rfl) ?_; refine rw_takeP 2 rfl rfl (by kernel_rfl) (by kernel_rfl) (by kernel_rfl) (by kernel_rfl) rfl (yo_pure hT rfl) ?_)
        refine rw_takeP 3 rfl rfl (by kernel_rfl) (by kernel_rfl) (by kernel_rfl) (by kernel_rfl) rfl (yo_index hT rfl rfl rfl k rfl hkl) ?_
        refine rw_take 4 rfl rfl (by kernel_rfl) (by kernel_rfl) (by kernel_rfl) (by kernel_rfl) rfl (yo_load hT rfl rfl (v := .string x.bill.number) (fun w' hS => rdk w' (hx1013.trans hS))) ?_
        (refine rw_takeP 5 rfl rfl (by kernel_rfl) (by kernel_rfl) (by kernel_rfl) (by kernel_rfl) rfl (yo_pure hT rfl) ?_; refine rw_takeP 6 rfl rfl (by kernel_rfl) (by kernel_rfl) (by kernel_rfl) (by kernel_rfl) rfl (yo_pure hT rfl) ?_)
        refine rw_takeP 7 rfl rfl (by kernel_rfl) (by kernel_rfl) (by kernel_rfl) (by kernel_rfl) rfl (yo_index hT rfl rfl rfl j rfl hj3) ?_
        (refine rw_takeP 8 rfl rfl (by kernel_rfl) (by kernel_rfl) (by kernel_rfl) (by kernel_rfl) rfl (yo_pure hT rfl) ?_)
        refine rw_take 9 rfl rfl (by kernel_rfl) (by kernel_rfl) (by kernel_rfl) (by kernel_rfl) rfl (yo_load hT rfl rfl (v := .int .i64 (j : Nat)) (fun w' hS => (hrow w' hS) 1 _ rfl)) ?_
        refine rw_one 10 rfl (by kernel_rfl) rfl (fun hcl => ?_)
        refine lw_call hT rfl rfl (reg_Chain (hR9.ex (hx913.trans hx14)) hsm x.bill.number j) ?_
        rintro u15 w15 ⟨hu15, hx15⟩
        rw [chain_of hatx h3 hj3] at hu15
        have hx1315 := hx14.trans hx15
        have hx1015 := hx1013.trans hx1315
        have hc15 : ChainOk w15 u15 (papAt x j).chain := own_mono hu15 (Nat.zero_le _)
        have hsl15 := hc15.sl (A := fun _ => True) fun _ _ => trivial
        obtain ⟨a15, c15, rfl⟩ := own_slice0 hu15
        (repeat (refine lw_nil ?_))
        refine qw_rw (by repeat (first | with_reducible refine nop_then ?_ | with_reducible refine nop_block ?_ | with_reducible exact nop_body)) hcl (fun _ => hx1315) ?_
        (refine rw_takeP 11 rfl rfl (by kernel_rfl) (by kernel_rfl) (by kernel_rfl) (by kernel_rfl) rfl (yo_pure hT rfl) ?_)
        refine rw_done (by kernel_rfl) ?_
        (repeat (first | refine lw_pure hT rfl ?_ | refine cw_seq ?_ | refine cw_region ?_ | refine qw_then ?_))
        refine lw_index hT rfl rfl rfl k rfl hkl ?_
        skip
        refine lw_load hT rfl rfl (v := .string x.bill.number) (rdk _ hx1015) ?_
        skip
        refine lw_lookup_some mp42 rfl rfl ((hm9.ex hx10).ex hx1015) hfm ?_
        (repeat (refine lw_pure hT rfl ?_))
        refine lw_call hT rfl rfl (end_Check f w15 hsl15 hfsz hinv.ok) ?_
        rintro _ w16 ⟨rfl, hx16⟩
        rw [hfol]
        have hx1316 := hx1315.trans hx16
        dsimp only
        (repeat (first | refine lw_pure hT rfl ?_ | refine lw_nil ?_ | refine cw_seq ?_ | refine cw_region ?_ | refine qw_then ?_))
        refine lw_guard rfl (fun e => absurd e (by decide)) (fun _ => ?_)
        (repeat (first | refine lw_pure hT rfl ?_ | (refine lw_gon_f rfl ?_ ?_; focus (first | with_reducible rfl | with_reducible exact Bool.not_false | with_reducible exact Bool.not_true))))
        refine lw_guard rfl (fun e => absurd rfl (of_decide_eq_true e)) (fun _ => ?_)
        (repeat (first | refine lw_pure hT rfl ?_ | (refine lw_gon_f rfl ?_ ?_; focus (first | with_reducible rfl | with_reducible exact Bool.not_false | with_reducible exact Bool.not_true))))
        refine lw_index hT rfl rfl rfl j rfl hj3 ?_
        (repeat (first | refine lw_pure hT rfl ?_ | (refine lw_gon_f rfl ?_ ?_; focus (first | with_reducible rfl | with_reducible exact Bool.not_false | with_reducible exact Bool.not_true))))
        refine lw_load hT rfl rfl (v := .string (papAt x j).holder) ((hrow _ hx1316) 3 _ rfl) ?_
        (repeat (first | refine lw_pure hT rfl ?_ | (refine lw_gon_f rfl ?_ ?_; focus (first | with_reducible rfl | with_reducible exact Bool.not_false | with_reducible exact Bool.not_true))))
        refine lw_guard rfl (fun e => absurd rfl (of_decide_eq_true e)) (fun _ => ?_)
        (repeat (first | refine lw_pure hT rfl ?_ | (refine lw_gon_f rfl ?_ ?_; focus (first | with_reducible rfl | with_reducible exact Bool.not_false | with_reducible exact Bool.not_true))))
        refine lw_call hT rfl rfl (end_Blank w16 (hsl15.ex hx16) hkq) ?_
        rintro _ _ ⟨rfl, rfl⟩
        (repeat (first | (refine lw_add rfl rfl ?_ ?_ ?_; iterate 2 omega) | refine lw_pure hT rfl ?_ | refine lw_nil ?_ | refine cw_region ?_ | refine qw_then ?_ | refine cw_skip ?_ | refine qw_block ?_ | (refine cw_cond_f rfl ?_ ?_; focus (first | with_reducible rfl | with_reducible exact Bool.not_false | with_reducible exact Bool.not_true))))
        exact qw_round (j + 1) (by repeat (first | exact trivial | refine ⟨rfl, ?_⟩)) ⟨hj3, hx13.trans hx1316⟩ (by omega)
      · (repeat (first | (refine lw_add rfl rfl ?_ ?_ ?_; iterate 2 omega) | refine lw_pure hT rfl ?_ | refine lw_nil ?_ | refine cw_region ?_ | refine qw_then ?_ | refine cw_exit ?_ | refine qw_block ?_ | refine qw_block_exit ?_ | refine qw_then_exit ?_))
        exact qw_round (k + 1) (by repeat (first | exact trivial | refine ⟨rfl, ?_⟩)) ⟨hkl, hx1012.trans hx13⟩ (by omega)
    · (repeat (first | (refine lw_add rfl rfl ?_ ?_ ?_; iterate 2 omega) | refine lw_pure hT rfl ?_ | refine lw_nil ?_ | refine cw_region ?_ | refine qw_then ?_ | refine cw_exit ?_ | refine qw_block ?_ | refine qw_block_exit ?_ | refine qw_then_exit ?_))
      exact qw_round (i + 1) (by repeat (first | exact trivial | refine ⟨rfl, ?_⟩)) ⟨hlt, hx09.trans hx911, gs2, es1, by rw [hrun]; exact hR9.ex hx911, hf9, hn9, hm9.ex hx911, by rw [hrun]; exact hF9⟩ (by omega)
  · (repeat (first | refine lw_pure hT rfl ?_ | refine lw_nil ?_ | refine cw_seq ?_ | refine cw_region ?_ | refine qw_then ?_ | refine cw_ret ?_ | refine cw_exit ?_ | refine qw_block_exit ?_ | refine qw_then_exit ?_))
    exact qw_ret rfl ⟨rfl, hx00.trans hx05⟩
end Go.Proofs.YtfbjpfgglgffgaaGreat
