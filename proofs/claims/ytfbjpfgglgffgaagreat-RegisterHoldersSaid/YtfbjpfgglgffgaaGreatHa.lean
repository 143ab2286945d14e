/- Contracts of package supercargoref23, ninth part: put, Bills, Of, Full, Same. -/
import Derived.Test.YtfbjpfgglgffgaaGreatGh
import Derived.Test.YtfbjpfgglgffgaaGreatGj
import Derived.Test.YtfbjpfgglgffgaaGreatFh
set_option linter.unusedVariables false
set_option linter.unusedSimpArgs false
set_option linter.unusedSectionVars false
set_option linter.unnecessarySimpa false
namespace Go.Proofs.YtfbjpfgglgffgaaGreat
open Go Go.SK

set_option maxHeartbeats 2000000 in
theorem r23_put {A : Nat → Prop} {w : World} {b o c : Nat} {l : List ByteArray} (s : ByteArray) (hS : SlS A w (.slice (some ⟨b, o, none⟩) l.length c) l) (hc : l.length ≤ c) (hl : l.length ≤ 1000) :
    Ret Tryz.prog 78 [.slice (some ⟨b, o, none⟩) l.length c, .string s] w fun u w' => w'.ownsRow w.heap.size 9 1 u (l.length + 1) ((putL l s).map Value.string) ∧ Ex w w' := by
  have hS0 := hS
  obtain ⟨a_, c_, hv, _, hr⟩ := hS.is
  have hrow : ∀ i (hi : i < l.length), Rd w b (o + i * 1) [.string l[i]] := by
    intro i hi
    have hne : l.map (fun s => [Value.string s]) ≠ [] := by intro e; simp at e; subst e; simp at hi
    obtain ⟨bb, oo, e, _, hrd⟩ := hr hne
    simp only [Value.slice.injEq] at hv
    have e2 := hv.1.trans e
    simp only [Option.some.injEq, Addr.mk.injEq, and_true] at e2
    obtain ⟨rfl, rfl⟩ := e2
    exact (hrd i [.string l[i]] (by simp [hi])).2
  refine ret_of Tryz.func78 Tryz.ntmps78 rfl rfl rfl ?_
  (iterate 2 (refine cw_seq ?_; refine cw_region ?_; refine lw_pure hT rfl ?_; refine lw_nil ?_; refine qw_then ?_))
  refine cw_seq ?_
  refine cw_then_cut (α := Nat) (fun k => [(0, .slice (some ⟨b, o, none⟩) l.length c), (1, .string s), (5, .int .i64 (k : Nat))]) (fun k w' => Ex w w' ∧ k ≤ l.length ∧ (∀ j (hj : j < l.length), j < k → ltB l[j] s = true) ∧ ∀ hj : k < l.length, ltB l[k] s = false) ?_ ?_
  · refine cw_block ?_
    refine cw_loop (fun k : Nat => [(0, .slice (some ⟨b, o, none⟩) l.length c), (1, .string s), (5, .int .i64 (k : Nat))]) (fun k w' => Ex w w' ∧ k ≤ l.length ∧ ∀ j (hj : j < l.length), j < k → ltB l[j] s = true) (fun k => l.length - k) 0 (by repeat (first | exact trivial | refine ⟨rfl, ?_⟩)) ⟨Ext.refl _ _, Nat.zero_le _, fun j _ hj => by omega⟩ ?_
    rintro k w1 ⟨hx1, hk, hb⟩
    (repeat (first | refine lw_pure hT rfl ?_ | refine cw_seq ?_ | refine cw_region ?_))
    refine lw_guard rfl (fun e => ?_) (fun e => ?_)
    · have hlt : k < l.length := by have := of_decide_eq_true e; omega
      (repeat (first | refine lw_pure hT rfl ?_ | (refine lw_gon_t rfl ?_ ?_; focus (first | with_reducible rfl | with_reducible exact Bool.not_false | with_reducible exact Bool.not_true))))
      refine lw_index hT rfl rfl rfl k rfl hlt ?_
      (repeat (refine lw_gon_t rfl ?_ ?_; focus (first | with_reducible rfl | with_reducible exact Bool.not_false | with_reducible exact Bool.not_true)))
      refine lw_load hT rfl rfl (v := .string l[k]) (((hrow k hlt).ex hx1) 0 _ rfl) ?_
      (repeat (first | refine lw_pure hT rfl ?_ | refine lw_nil ?_ | refine qw_then ?_ | (refine lw_gon_t rfl ?_ ?_; focus (first | with_reducible rfl | with_reducible exact Bool.not_false | with_reducible exact Bool.not_true))))
      refine cw_cond rfl (fun e' => ?_) (fun e' => ?_)
      · (repeat (first | (refine lw_add rfl rfl ?_ ?_ ?_; iterate 2 omega) | refine lw_pure hT rfl ?_ | refine lw_nil ?_ | refine cw_region ?_ | refine qw_then ?_ | refine cw_skip ?_ | refine cw_block ?_ | refine qw_block ?_))
        refine qw_round (k + 1) (by repeat (first | exact trivial | refine ⟨rfl, ?_⟩)) ⟨hx1, hlt, fun j hj hjk => ?_⟩ (by omega)
        by_cases ej : j = k
        · subst ej; exact e'
        · exact hb j hj (by omega)
      · (repeat (first | refine cw_exit ?_ | refine qw_block_exit ?_ | refine qw_then_exit ?_))
        exact qw_cut k (by repeat (first | exact trivial | refine ⟨rfl, ?_⟩)) ⟨hx1, hk, hb, fun _ => e'⟩
    · have hge : ¬ k < l.length := by have := of_decide_eq_false e; omega
      (repeat (first | refine lw_pure hT rfl ?_ | refine lw_nil ?_ | refine qw_then ?_ | (refine lw_goff_f rfl ?_ ?_; focus (first | with_reducible rfl | with_reducible exact Bool.not_false | with_reducible exact Bool.not_true)) | refine cw_exit ?_ | refine qw_block_exit ?_ | refine qw_then_exit ?_ | (refine cw_cond_f rfl ?_ ?_; focus (first | with_reducible rfl | with_reducible exact Bool.not_false | with_reducible exact Bool.not_true))))
      exact qw_cut k (by repeat (first | exact trivial | refine ⟨rfl, ?_⟩)) ⟨hx1, hk, hb, fun h => absurd h hge⟩
  rintro k w1 ⟨hx1, hk, hb, h2⟩
  have fin : ∀ (u3 : Value) (w9 : World), w9.ownsRow w1.heap.size 9 1 u3 (k + 1 + (l.length - k)) (((((l.map fun s => [Value.string s]).take k).flatten ++ [Value.string s])) ++ ((l.map fun s => [Value.string s]).drop k).flatten) →
      w9.ownsRow w.heap.size 9 1 u3 (l.length + 1) ((putL l s).map Value.string) := by
    intro u3 w9 h
    rw [putL_at hk hb h2]
    have e1 : ((l.map fun s => [Value.string s]).take k).flatten = (l.take k).map Value.string := by rw [← List.map_take]; exact flat4 _
    have e2 : ((l.map fun s => [Value.string s]).drop k).flatten = (l.drop k).map Value.string := by rw [← List.map_drop]; exact flat4 _
    rw [e1, e2, show k + 1 + (l.length - k) = l.length + 1 from by omega] at h
    have := own_mono h hx1.size
    simpa using this
  have hS1 := hS.ex hx1
  have hzl : (l.map fun s => [Value.string s]).length = l.length := List.length_map _
  have hTk := hS1.cutTo (i := k) (by rw [hzl]; exact hk)
  have hDr := hS1.cutFrom (i := k) (m := l.length - k) (by rw [hzl]; exact hk) (by rw [hzl]) hc
  have hTkl : ((l.map fun s => [Value.string s]).take k).length = k := by rw [List.length_take, hzl]; omega
  have hDrl : ((l.map fun s => [Value.string s]).drop k).length = l.length - k := by rw [List.length_drop, hzl]
  have hone : ∀ r ∈ (l.map fun s => [Value.string s]), ∀ u ∈ r, u.oneCell' = true := by intro r hr u hu; obtain ⟨x, _, rfl⟩ := List.mem_map.1 hr; simp at hu; subst hu; rfl
  have hTk1 : ∀ r ∈ (l.map fun s => [Value.string s]).take k, ∀ u ∈ r, u.oneCell' = true := fun r hr => hone r (List.mem_of_mem_take hr)
  have hDr1 : ∀ r ∈ (l.map fun s => [Value.string s]).drop k, ∀ u ∈ r, u.oneCell' = true := fun r hr => hone r (List.mem_of_mem_drop hr)
  (repeat (first | refine cw_seq ?_ | refine qw_then ?_))
  refine cw_draw hM (fun w' => Ex w1 w') [] rfl rfl (by repeat (first | with_reducible refine nop_then ?_ | with_reducible refine nop_block ?_ | with_reducible exact nop_body)) (fun w2 hx2 _ => ⟨hx2, ?_⟩)
  (refine rw_takeP 1 rfl rfl (by kernel_rfl) (by kernel_rfl) (by kernel_rfl) (by kernel_rfl) rfl (yo_pure hT rfl) ?_; refine rw_takeP 2 rfl rfl (by kernel_rfl) (by kernel_rfl) (by kernel_rfl) (by kernel_rfl) rfl (yo_pure hT rfl) ?_)
  refine rw_takeP 3 rfl rfl (by kernel_rfl) (by kernel_rfl) (by kernel_rfl) (by kernel_rfl) rfl (yo_slice_sl hT rfl rfl rfl rfl 0 k rfl rfl (Nat.zero_le _) (by omega)) ?_
  (refine rw_takeP 5 rfl rfl (by kernel_rfl) (by kernel_rfl) (by kernel_rfl) (by kernel_rfl) rfl (yo_pure hT rfl) ?_; refine rw_takeP 8 rfl rfl (by kernel_rfl) (by kernel_rfl) (by kernel_rfl) (by kernel_rfl) rfl (yo_pure hT rfl) ?_; refine rw_takeP 9 rfl rfl (by kernel_rfl) (by kernel_rfl) (by kernel_rfl) (by kernel_rfl) rfl (yo_pure hT rfl) ?_)
  refine rw_takeP 10 rfl rfl (by kernel_rfl) (by kernel_rfl) (by kernel_rfl) (by kernel_rfl) rfl (yo_slice_sl hT rfl rfl rfl rfl k l.length rfl rfl hk hc) ?_
  skip
  refine rw_two 0 6 rfl rfl (by kernel_rfl) rfl rfl (fun hcl => ?_) (fun hcl => ?_)
  · refine lw_buildSlice sl32 rfl rfl rfl ?_
    intro e0 w3 he0 hbe0 hx3 hs3
    have hC3 := hx2.trans hx3
    have own3 : w3.ownsRow w1.heap.size 9 1 (.slice (some ⟨e0, 0, none⟩) 0 0) 0 [] := own_lit hbe0 (by have := hx2.size; omega) rfl (by decide)
    (repeat (refine lw_nil ?_))
    refine qw_rw (by repeat (first | with_reducible refine nop_then ?_ | with_reducible refine nop_block ?_ | with_reducible exact nop_body)) hcl (fun _ => hC3) ?_
    refine rw_two 4 6 rfl rfl (by kernel_rfl) rfl rfl (fun hcl => ?_) (fun hcl => ?_)
    · refine lw_append_sl sl32 (by decide) rfl own3 rfl (hTk.ex hC3) hTk1 (by rw [hTkl]; unfold maxLen; omega) (by rw [hTkl]; omega) (by have := hC3.size; omega) ?_
      intro u1 w4 q1 q2 q3 q4
      have hC4 : Ex w1 w4 := hC3.up_new q2 (fun i h => by simp [Value.ownBlock] at h; have := hx2.size; have := hC3.size; omega)
      rw [Nat.zero_add, List.nil_append, hTkl] at q1
      (repeat (refine lw_nil ?_))
      refine qw_rw (by repeat (first | with_reducible refine nop_then ?_ | with_reducible refine nop_block ?_ | with_reducible exact nop_body)) hcl (fun _ => hC4) ?_
      refine rw_one 6 rfl (by kernel_rfl) rfl (fun hcl => ?_)
      refine lw_buildSlice sl32 rfl rfl rfl ?_
      intro e7 w5 he7 hbe7 hx5 hs5
      replace hbe7 : Blk w5 e7 ([Value.string s]) 9 := hbe7
      have hC5 := hC4.trans hx5
      have own5 := own_ex q1 hx5
      (repeat (refine lw_nil ?_))
      refine qw_rw (by repeat (first | with_reducible refine nop_then ?_ | with_reducible refine nop_block ?_ | with_reducible exact nop_body)) hcl (fun _ => hC5) ?_
      refine rw_one 7 rfl (by kernel_rfl) rfl (fun hcl => ?_)
      refine lw_append sl32 (by decide) rfl own5 rfl (hbe7.rd 0 1) rfl (by intro u hu; simp at hu; subst hu; rfl) (by unfold maxLen; omega) (by omega) (by have := hC5.size; omega) ?_
      intro u2 w6 k1 k2 k3 k4
      have hC6 : Ex w1 w6 := hC5.up_new k2 (fun i h => (own_base q1 h.symm).1)
      (repeat (refine lw_nil ?_))
      refine qw_rw (by repeat (first | with_reducible refine nop_then ?_ | with_reducible refine nop_block ?_ | with_reducible exact nop_body)) hcl (fun _ => hC6) ?_
      refine rw_one 11 rfl (by kernel_rfl) rfl (fun hcl => ?_)
      refine lw_append_sl sl32 (by decide) rfl k1 rfl (hDr.ex hC6) hDr1 (by rw [hDrl]; unfold maxLen; omega) (by rw [hDrl]; omega) (by have := hC6.size; omega) ?_
      intro u3 w7 m1 m2 m3 m4
      have hC7 : Ex w1 w7 := hC6.up_new m2 (fun i h => (own_base k1 h.symm).1)
      rw [hDrl] at m1
      (repeat (refine lw_nil ?_))
      refine qw_rw (by repeat (first | with_reducible refine nop_then ?_ | with_reducible refine nop_block ?_ | with_reducible exact nop_body)) hcl (fun _ => hC7) ?_
      (refine rw_takeP 12 rfl rfl (by kernel_rfl) (by kernel_rfl) (by kernel_rfl) (by kernel_rfl) rfl (yo_pure hT rfl) ?_)
      refine rw_done (by kernel_rfl) ?_
      (repeat (first | refine qw_then ?_ | refine cw_ret ?_))
      exact qw_ret rfl ⟨fin u3 w7 m1, hx1.trans hC7⟩
    · refine lw_buildSlice sl32 rfl rfl rfl ?_
      intro e7 w4 he7 hbe7 hx4 hs4
      replace hbe7 : Blk w4 e7 ([Value.string s]) 9 := hbe7
      have hC4 := hC3.trans hx4
      have own4 := own_ex own3 hx4
      (repeat (refine lw_nil ?_))
      refine qw_rw (by repeat (first | with_reducible refine nop_then ?_ | with_reducible refine nop_block ?_ | with_reducible exact nop_body)) hcl (fun _ => hC4) ?_
      refine rw_one 4 rfl (by kernel_rfl) rfl (fun hcl => ?_)
      refine lw_append_sl sl32 (by decide) rfl own4 rfl (hTk.ex hC4) hTk1 (by rw [hTkl]; unfold maxLen; omega) (by rw [hTkl]; omega) (by have := hC4.size; omega) ?_
      intro u1 w5 q1 q2 q3 q4
      have hC5 : Ex w1 w5 := hC4.up_new q2 (fun i h => by simp [Value.ownBlock] at h; have := hx2.size; have := hC3.size; omega)
      rw [Nat.zero_add, List.nil_append, hTkl] at q1
      have be5 := hbe7.ext q2 (by simp [Value.ownBlock]; have := hC4.size; omega)
      (repeat (refine lw_nil ?_))
      refine qw_rw (by repeat (first | with_reducible refine nop_then ?_ | with_reducible refine nop_block ?_ | with_reducible exact nop_body)) hcl (fun _ => hC5) ?_
      refine rw_one 7 rfl (by kernel_rfl) rfl (fun hcl => ?_)
      refine lw_append sl32 (by decide) rfl q1 rfl (be5.rd 0 1) rfl (by intro u hu; simp at hu; subst hu; rfl) (by unfold maxLen; omega) (by omega) (by have := hC5.size; omega) ?_
      intro u2 w6 k1 k2 k3 k4
      have hC6 : Ex w1 w6 := hC5.up_new k2 (fun i h => (own_base q1 h.symm).1)
      (repeat (refine lw_nil ?_))
      refine qw_rw (by repeat (first | with_reducible refine nop_then ?_ | with_reducible refine nop_block ?_ | with_reducible exact nop_body)) hcl (fun _ => hC6) ?_
      refine rw_one 11 rfl (by kernel_rfl) rfl (fun hcl => ?_)
      refine lw_append_sl sl32 (by decide) rfl k1 rfl (hDr.ex hC6) hDr1 (by rw [hDrl]; unfold maxLen; omega) (by rw [hDrl]; omega) (by have := hC6.size; omega) ?_
      intro u3 w7 m1 m2 m3 m4
      have hC7 : Ex w1 w7 := hC6.up_new m2 (fun i h => (own_base k1 h.symm).1)
      rw [hDrl] at m1
      (repeat (refine lw_nil ?_))
      refine qw_rw (by repeat (first | with_reducible refine nop_then ?_ | with_reducible refine nop_block ?_ | with_reducible exact nop_body)) hcl (fun _ => hC7) ?_
      (refine rw_takeP 12 rfl rfl (by kernel_rfl) (by kernel_rfl) (by kernel_rfl) (by kernel_rfl) rfl (yo_pure hT rfl) ?_)
      refine rw_done (by kernel_rfl) ?_
      (repeat (first | refine qw_then ?_ | refine cw_ret ?_))
      exact qw_ret rfl ⟨fin u3 w7 m1, hx1.trans hC7⟩
  · refine lw_buildSlice sl32 rfl rfl rfl ?_
    intro e7 w3 he7 hbe7 hx3 hs3
    replace hbe7 : Blk w3 e7 ([Value.string s]) 9 := hbe7
    have hC3 := hx2.trans hx3
    (repeat (refine lw_nil ?_))
    refine qw_rw (by repeat (first | with_reducible refine nop_then ?_ | with_reducible refine nop_block ?_ | with_reducible exact nop_body)) hcl (fun _ => hC3) ?_
    refine rw_one 0 rfl (by kernel_rfl) rfl (fun hcl => ?_)
    refine lw_buildSlice sl32 rfl rfl rfl ?_
    intro e0 w4 he0 hbe0 hx4 hs4
    have hC4 := hC3.trans hx4
    have own4 : w4.ownsRow w1.heap.size 9 1 (.slice (some ⟨e0, 0, none⟩) 0 0) 0 [] := own_lit hbe0 (by have := hC3.size; omega) rfl (by decide)
    have be4 := hbe7.ex hx4
    (repeat (refine lw_nil ?_))
    refine qw_rw (by repeat (first | with_reducible refine nop_then ?_ | with_reducible refine nop_block ?_ | with_reducible exact nop_body)) hcl (fun _ => hC4) ?_
    refine rw_one 4 rfl (by kernel_rfl) rfl (fun hcl => ?_)
    refine lw_append_sl sl32 (by decide) rfl own4 rfl (hTk.ex hC4) hTk1 (by rw [hTkl]; unfold maxLen; omega) (by rw [hTkl]; omega) (by have := hC4.size; omega) ?_
    intro u1 w5 q1 q2 q3 q4
    have hC5 : Ex w1 w5 := hC4.up_new q2 (fun i h => by simp [Value.ownBlock] at h; have := hx2.size; have := hC3.size; omega)
    rw [Nat.zero_add, List.nil_append, hTkl] at q1
    have be5 := be4.ext q2 (by simp [Value.ownBlock]; have := hC4.size; omega)
    (repeat (refine lw_nil ?_))
    refine qw_rw (by repeat (first | with_reducible refine nop_then ?_ | with_reducible refine nop_block ?_ | with_reducible exact nop_body)) hcl (fun _ => hC5) ?_
    refine rw_one 7 rfl (by kernel_rfl) rfl (fun hcl => ?_)
    refine lw_append sl32 (by decide) rfl q1 rfl (be5.rd 0 1) rfl (by intro u hu; simp at hu; subst hu; rfl) (by unfold maxLen; omega) (by omega) (by have := hC5.size; omega) ?_
    intro u2 w6 k1 k2 k3 k4
    have hC6 : Ex w1 w6 := hC5.up_new k2 (fun i h => (own_base q1 h.symm).1)
    (repeat (refine lw_nil ?_))
    refine qw_rw (by repeat (first | with_reducible refine nop_then ?_ | with_reducible refine nop_block ?_ | with_reducible exact nop_body)) hcl (fun _ => hC6) ?_
    refine rw_one 11 rfl (by kernel_rfl) rfl (fun hcl => ?_)
    refine lw_append_sl sl32 (by decide) rfl k1 rfl (hDr.ex hC6) hDr1 (by rw [hDrl]; unfold maxLen; omega) (by rw [hDrl]; omega) (by have := hC6.size; omega) ?_
    intro u3 w7 m1 m2 m3 m4
    have hC7 : Ex w1 w7 := hC6.up_new m2 (fun i h => (own_base k1 h.symm).1)
    rw [hDrl] at m1
    (repeat (refine lw_nil ?_))
    refine qw_rw (by repeat (first | with_reducible refine nop_then ?_ | with_reducible refine nop_block ?_ | with_reducible exact nop_body)) hcl (fun _ => hC7) ?_
    (refine rw_takeP 12 rfl rfl (by kernel_rfl) (by kernel_rfl) (by kernel_rfl) (by kernel_rfl) rfl (yo_pure hT rfl) ?_)
    refine rw_done (by kernel_rfl) ?_
    (repeat (first | refine qw_then ?_ | refine cw_ret ?_))
    exact qw_ret rfl ⟨fin u3 w7 m1, hx1.trans hC7⟩

theorem putAll_take {l : List ByteArray} {i : Nat} (hi : i < l.length) : putAll (l.take (i + 1)) = putL (putAll (l.take i)) l[i] := by rw [List.take_succ_eq_append_getElem hi, putAll_snoc]
theorem putAll_len (l : List ByteArray) : (putAll l).length = l.length := (putAll_perm l).length_eq
/-- A slice of the call's own, of texts, that isn't nil. -/
def TxtO (N : Nat) (w : World) (u : Value) (l : List ByteArray) : Prop := w.ownsRow N 9 1 u l.length (l.map Value.string) ∧ ∃ g c, u = .slice (some ⟨g, 0, none⟩) l.length c ∧ l.length ≤ c
theorem TxtO.ex {N : Nat} {w w' : World} {u : Value} {l : List ByteArray} (h : TxtO N w u l) (hx : Ex w w') : TxtO N w' u l := ⟨own_ex h.1 hx, h.2⟩
theorem TxtO.sls {N : Nat} {w : World} {u : Value} {l : List ByteArray} (h : TxtO N w u l) : SlS (fun _ => True) w u l := sls_own h.1 fun _ _ => trivial
theorem txt_put {N : Nat} {w w' : World} {u : Value} {l : List ByteArray} (hN : N ≤ w.heap.size) {s : ByteArray} (h : w'.ownsRow w.heap.size 9 1 u (l.length + 1) ((putL l s).map Value.string)) : TxtO N w' u (putL l s) := by
  have e : (putL l s).length = l.length + 1 := putL_len l s
  obtain ⟨g, c, rfl⟩ := own_slice h (by omega)
  unfold TxtO
  rw [e]
  exact ⟨own_mono h hN, g, c, rfl, own_cap h _ _ _ rfl⟩
theorem r23_put' {N : Nat} {w : World} {u : Value} {l : List ByteArray} (s : ByteArray) (h : TxtO N w u l) (hN : N ≤ w.heap.size) (hl : l.length ≤ 1000) : Ret Tryz.prog 78 [u, .string s] w fun u' w' => TxtO N w' u' (putL l s) ∧ Ex w w' := by
  have hs := h.sls
  obtain ⟨h1, g, c, rfl, hc⟩ := h
  exact (r23_put s hs hc hl).mono fun u' w' ⟨h1, h2⟩ => ⟨txt_put hN h1, h2⟩
theorem r23_Bills {A : Nat → Prop} {w : World} {vL : Value} {l : List EntD} {gs : List FG} (c : ByteArray) (hF : FRep A w vL l gs) (hl : l.length ≤ 256) : Ret Tryz.prog 48 [.agg ⟨encR c vL⟩] w fun u w' => TxtO w.heap.size w' u (putAll (l.map (·.bill.number))) ∧ Ex w w' := by
  obtain ⟨aL, cL, hvL, hLm⟩ := hF.slice
  subst hvL
  refine ret_of Tryz.func48 Tryz.ntmps48 rfl rfl rfl ?_
  (repeat (first | refine cw_seq ?_ | refine cw_region ?_))
  refine lw_box rfl ?_
  intro b1 w1 hbb1 hb1 hx1 hs1
  replace hb1 : Blk w1 b1 (encR c (.slice aL l.length cL)) 28 := hb1
  (repeat (first | refine lw_pure hT rfl ?_ | refine lw_nil ?_ | refine cw_seq ?_ | refine cw_region ?_ | refine qw_then ?_))
  refine lw_buildSlice sl32 rfl rfl rfl ?_
  intro b2 w2 hbb2 hb2 hx2 hs2
  have hb12 := hb1.ex hx2
  have hx02 := hx1.trans hx2
  have h0 : TxtO w.heap.size w2 (.slice (some ⟨b2, 0, none⟩) 0 0) (putAll ((l.map (·.bill.number)).take 0)) := ⟨own_lit hb2 (by omega) rfl (by decide), b2, 0, rfl, Nat.le_refl _⟩
  (repeat (first | refine lw_pure hT rfl ?_ | refine lw_nil ?_ | refine cw_seq ?_ | refine cw_region ?_ | refine qw_then ?_ | refine cw_block ?_))
  refine cw_loop (fun z : Nat × Value => [(1, .pointer (some ⟨b1, 0, none⟩)), (3, z.2), (4, .int .i64 (z.1 : Nat))]) (fun z w' => z.1 ≤ l.length ∧ Ex w2 w' ∧ TxtO w.heap.size w' z.2 (putAll ((l.map (·.bill.number)).take z.1))) (fun z => l.length - z.1) (0, .slice (some ⟨b2, 0, none⟩) 0 0) (by repeat (first | exact trivial | refine ⟨rfl, ?_⟩)) ⟨Nat.zero_le _, Ext.refl _ _, h0⟩ ?_
  rintro ⟨i, u⟩ w3 ⟨hi, hx3, hu⟩
  dsimp only at hi hu ⊢
  have hx03 := hx02.trans hx3
  have hb13 := hb12.ex hx3
  (repeat (first | refine lw_pure hT rfl ?_ | refine cw_seq ?_ | refine cw_region ?_))
  refine lw_load hT rfl rfl (v := .slice aL l.length cL) (hb13.cell 1) ?_
  (repeat (first | refine lw_pure hT rfl ?_ | refine lw_nil ?_ | refine qw_then ?_))
  refine cw_cond rfl (fun e => ?_) (fun e => ?_)
  · have hlt : i < l.length := by have := of_decide_eq_true e; omega
    obtain ⟨x, g, bL, oL, cL', hx_, hg_, hv, hrd, hE⟩ := (hF.ex hx03).row hlt
    cases hv
    have hxi : x = l[i] := by rw [List.getElem?_eq_getElem hlt] at hx_; exact (Option.some.inj hx_).symm
    (repeat (first | refine lw_pure hT rfl ?_ | refine cw_seq ?_ | refine cw_region ?_ | refine qw_then ?_ | refine cw_skip ?_ | refine cw_block ?_))
    refine lw_load hT rfl rfl (v := .slice (some ⟨bL, oL, none⟩) l.length cL) (hb13.cell 1) ?_
    (repeat (refine lw_pure hT rfl ?_))
    refine lw_index hT rfl rfl rfl i rfl hlt ?_
    (repeat (refine lw_pure hT rfl ?_))
    refine lw_load hT rfl rfl (v := .string x.bill.number) (hrd 0 _ rfl) ?_
    skip
    refine lw_call hT rfl rfl (r23_put' x.bill.number hu (by have := hx03.size; omega) (by rw [putAll_len]; simp; omega)) ?_
    rintro u' w4 ⟨hu', hx4⟩
    (repeat (first | (refine lw_add rfl rfl ?_ ?_ ?_; iterate 2 omega) | refine lw_pure hT rfl ?_ | refine lw_nil ?_ | refine cw_region ?_ | refine qw_then ?_ | refine qw_block ?_))
    refine qw_round (x := (i, u)) (i + 1, u') (by repeat (first | exact trivial | refine ⟨rfl, ?_⟩)) ⟨hlt, hx3.trans hx4, ?_⟩ (by show l.length - (i + 1) < l.length - i; omega)
    have := putAll_take (l := l.map (·.bill.number)) (i := i) (by simpa using hlt)
    rw [this]
    simpa [hxi] using hu'
  · have : i = l.length := by have := of_decide_eq_false e; omega
    subst this
    (repeat (first | refine lw_pure hT rfl ?_ | refine lw_nil ?_ | refine cw_seq ?_ | refine cw_region ?_ | refine qw_then ?_ | refine cw_ret ?_ | refine cw_exit ?_ | refine qw_block_exit ?_ | refine qw_then_exit ?_))
    rw [List.take_of_length_le (by simp)] at hu
    exact qw_ret rfl ⟨hu, hx03⟩
set_option maxHeartbeats 1000000 in
theorem r23_Of {A : Nat → Prop} {w : World} {vL : Value} {l : List EntD} {gs : List FG} (c who : ByteArray) (hF : FRep A w vL l gs) (hl : l.length ≤ 256) : Ret Tryz.prog 50 [.agg ⟨encR c vL⟩, .string who] w fun u w' => TxtO w.heap.size w' u (putAll ((l.filter fun e => e.holds who).map (·.bill.number))) ∧ Ex w w' := by
  obtain ⟨aL, cL, hvL, hLm⟩ := hF.slice
  subst hvL
  refine ret_of Tryz.func50 Tryz.ntmps50 rfl rfl rfl ?_
  (repeat (first | refine cw_seq ?_ | refine cw_region ?_))
  refine lw_box rfl ?_
  intro b1 w1 hbb1 hb1 hx1 hs1
  replace hb1 : Blk w1 b1 (encR c (.slice aL l.length cL)) 28 := hb1
  (repeat (first | refine lw_pure hT rfl ?_ | refine lw_nil ?_ | refine cw_seq ?_ | refine cw_region ?_ | refine qw_then ?_))
  refine lw_buildSlice sl32 rfl rfl rfl ?_
  intro b2 w2 hbb2 hb2 hx2 hs2
  have hb12 := hb1.ex hx2
  have hx02 := hx1.trans hx2
  have h0 : TxtO w.heap.size w2 (.slice (some ⟨b2, 0, none⟩) 0 0) (putAll (((l.take 0).filter fun e => e.holds who).map (·.bill.number))) := ⟨own_lit hb2 (by omega) rfl (by decide), b2, 0, rfl, Nat.le_refl _⟩
  (repeat (first | refine lw_pure hT rfl ?_ | refine lw_nil ?_ | refine cw_seq ?_ | refine cw_region ?_ | refine qw_then ?_ | refine cw_block ?_))
  refine cw_loop (fun z : Nat × Value => [(1, .string who), (2, .pointer (some ⟨b1, 0, none⟩)), (5, z.2), (6, .int .i64 (z.1 : Nat))]) (fun z w' => z.1 ≤ l.length ∧ Ex w2 w' ∧ TxtO w.heap.size w' z.2 (putAll (((l.take z.1).filter fun e => e.holds who).map (·.bill.number)))) (fun z => l.length - z.1) (0, .slice (some ⟨b2, 0, none⟩) 0 0) (by repeat (first | exact trivial | refine ⟨rfl, ?_⟩)) ⟨Nat.zero_le _, Ext.refl _ _, h0⟩ ?_
  rintro ⟨i, u⟩ w3 ⟨hi, hx3, hu⟩
  dsimp only at hi hu ⊢
  have hx03 := hx02.trans hx3
  have hb13 := hb12.ex hx3
  (repeat (first | refine lw_pure hT rfl ?_ | refine cw_seq ?_ | refine cw_region ?_))
  refine lw_load hT rfl rfl (v := .slice aL l.length cL) (hb13.cell 1) ?_
  (repeat (first | refine lw_pure hT rfl ?_ | refine lw_nil ?_ | refine qw_then ?_))
  refine cw_cond rfl (fun e => ?_) (fun e => ?_)
  · have hlt : i < l.length := by have := of_decide_eq_true e; omega
    obtain ⟨x, g, bL, oL, cL', hx_, hg_, hv, hrd, hE⟩ := (hF.ex hx03).row hlt
    cases hv
    have hxi : x = l[i] := by rw [List.getElem?_eq_getElem hlt] at hx_; exact (Option.some.inj hx_).symm
    have etake : l.take (i + 1) = l.take i ++ [x] := by rw [List.take_succ_eq_append_getElem hlt, hxi]
    (repeat (first | refine lw_pure hT rfl ?_ | refine cw_seq ?_ | refine cw_region ?_ | refine qw_then ?_ | refine cw_skip ?_ | refine cw_block ?_))
    refine lw_load hT rfl rfl (v := .slice (some ⟨bL, oL, none⟩) l.length cL) (hb13.cell 1) ?_
    (repeat (refine lw_pure hT rfl ?_))
    refine lw_index hT rfl rfl rfl i rfl hlt ?_
    skip
    refine lw_load_agg hT rfl rfl rfl (vs := entF (x, g)) hrd ?_
    skip
    refine lw_alloc z98 ?_
    intro b7 w4 hbb7 hb7 hx4 hs4
    skip
    refine lw_store_agg hT rfl rfl rfl rfl (entF_one hE) hb7 (show (11 : Nat) ≤ 11 by decide) ?_
    intro w5 hb75 hx5 hs5
    replace hb75 : Blk w5 b7 (entF (x, g)) 98 := hb75
    have hx35 : Ex w3 w5 := hx4.up_new hx5 (fun i h => by omega)
    have hE5 := hE.ex hx35
    (repeat (first | refine lw_pure hT rfl ?_ | refine lw_nil ?_ | refine cw_seq ?_ | refine cw_region ?_ | refine qw_then ?_ | refine cw_block ?_))
    refine cw_loop (fun k : Nat => [(1, .string who), (2, .pointer (some ⟨b1, 0, none⟩)), (5, u), (6, .int .i64 (i : Nat)), (7, .pointer (some ⟨b7, 0, none⟩)), (8, .bool ((x.ps.take k).any fun q => decide (x.state = 0) && (decide (q.state = 0) && decide (q.holder = who)))), (9, .int .i64 (k : Nat))])
      (fun k w' => k ≤ 3 ∧ w5 = w') (fun k => 3 - k) 0 (by repeat (first | exact trivial | refine ⟨rfl, ?_⟩)) ⟨Nat.zero_le _, rfl⟩ ?_
    rintro k _ ⟨hk, rfl⟩
    (repeat (first | refine lw_pure hT rfl ?_ | refine lw_nil ?_ | refine cw_seq ?_ | refine cw_region ?_ | refine qw_then ?_))
    refine cw_cond rfl (fun e => ?_) (fun e => ?_)
    · have hk3 : k < 3 := by have := of_decide_eq_true e; omega
      obtain ⟨vc, bP, oP, cP, hvP, _, hrP, hvk, _⟩ := hE5.paper hk3
      have hpk := papAt_get hE.three hk3
      have htk : x.ps.take (k + 1) = x.ps.take k ++ [papAt x k] := by
        have hkl : k < x.ps.length := by rw [hE.three]; exact hk3
        rw [List.take_succ_eq_append_getElem hkl]
        rw [List.getElem?_eq_getElem hkl] at hpk
        rw [Option.some.inj hpk]
      have hany : ((x.ps.take (k + 1)).any fun q => decide (x.state = 0) && (decide (q.state = 0) && decide (q.holder = who))) = (((x.ps.take k).any fun q => decide (x.state = 0) && (decide (q.state = 0) && decide (q.holder = who))) || (decide (x.state = 0) && (decide ((papAt x k).state = 0) && decide ((papAt x k).holder = who)))) := by rw [htk, List.any_append]; simp
      have no : (decide (x.state = 0) && (decide ((papAt x k).state = 0) && decide ((papAt x k).holder = who))) = false → ((x.ps.take (k + 1)).any fun q => decide (x.state = 0) && (decide (q.state = 0) && decide (q.holder = who))) = ((x.ps.take k).any fun q => decide (x.state = 0) && (decide (q.state = 0) && decide (q.holder = who))) := fun h => by rw [hany, h, Bool.or_false]
      (repeat (first | refine lw_pure hT rfl ?_ | refine cw_seq ?_ | refine cw_region ?_ | refine qw_then ?_ | refine cw_skip ?_ | refine cw_block ?_))
      refine lw_load hT rfl rfl (v := .int .i64 x.state) (hb75.cell 9) ?_
      (repeat (refine lw_pure hT rfl ?_))
      refine lw_guard rfl (fun e1 => ?_) (fun e1 => ?_)
      · (repeat (first | refine lw_pure hT rfl ?_ | (refine lw_gon_t rfl ?_ ?_; focus (first | with_reducible rfl | with_reducible exact Bool.not_false | with_reducible exact Bool.not_true))))
        refine lw_load hT rfl rfl (v := g.vP) (hb75.cell 10) ?_
        rw [hvP]
        (repeat (first | refine lw_pure hT rfl ?_ | (refine lw_gon_t rfl ?_ ?_; focus (first | with_reducible rfl | with_reducible exact Bool.not_false | with_reducible exact Bool.not_true))))
        refine lw_index hT rfl rfl rfl k rfl hk3 ?_
        (repeat (first | refine lw_pure hT rfl ?_ | (refine lw_gon_t rfl ?_ ?_; focus (first | with_reducible rfl | with_reducible exact Bool.not_false | with_reducible exact Bool.not_true))))
        refine lw_load hT rfl rfl (v := .int .i64 (papAt x k).state) (hrP 0 _ rfl) ?_
        (repeat (first | refine lw_pure hT rfl ?_ | (refine lw_gon_t rfl ?_ ?_; focus (first | with_reducible rfl | with_reducible exact Bool.not_false | with_reducible exact Bool.not_true))))
        refine lw_guard rfl (fun e2 => ?_) (fun e2 => ?_)
        · (repeat (first | refine lw_pure hT rfl ?_ | (refine lw_gon_t rfl ?_ ?_; focus (first | with_reducible rfl | with_reducible exact Bool.not_false | with_reducible exact Bool.not_true))))
          refine lw_load hT rfl rfl (v := g.vP) (hb75.cell 10) ?_
          rw [hvP]
          (repeat (first | refine lw_pure hT rfl ?_ | (refine lw_gon_t rfl ?_ ?_; focus (first | with_reducible rfl | with_reducible exact Bool.not_false | with_reducible exact Bool.not_true))))
          refine lw_index hT rfl rfl rfl k rfl hk3 ?_
          (repeat (first | refine lw_pure hT rfl ?_ | (refine lw_gon_t rfl ?_ ?_; focus (first | with_reducible rfl | with_reducible exact Bool.not_false | with_reducible exact Bool.not_true))))
          refine lw_load hT rfl rfl (v := .string (papAt x k).holder) (hrP 1 _ rfl) ?_
          (repeat (first | refine lw_pure hT rfl ?_ | refine lw_nil ?_ | refine qw_then ?_ | (refine lw_gon_t rfl ?_ ?_; focus (first | with_reducible rfl | with_reducible exact Bool.not_false | with_reducible exact Bool.not_true))))
          refine cw_cond rfl (fun e3 => ?_) (fun e3 => ?_)
          · (repeat (first | (refine lw_add rfl rfl ?_ ?_ ?_; iterate 2 omega) | refine lw_pure hT rfl ?_ | refine lw_nil ?_ | refine cw_region ?_ | refine qw_then ?_ | refine qw_block ?_))
            refine qw_round (k + 1) ?_ ⟨hk3, rfl⟩ (by omega)
            rw [hany, e1, e2, e3, Bool.and_true, Bool.and_true, Bool.or_true]
            exact (by repeat (first | exact trivial | refine ⟨rfl, ?_⟩))
          · (repeat (first | (refine lw_add rfl rfl ?_ ?_ ?_; iterate 2 omega) | refine lw_pure hT rfl ?_ | refine lw_nil ?_ | refine cw_region ?_ | refine qw_then ?_ | refine cw_skip ?_ | refine qw_block ?_))
            refine qw_round (k + 1) ?_ ⟨hk3, rfl⟩ (by omega)
            rw [no (by rw [e3, Bool.and_false, Bool.and_false])]
            exact (by repeat (first | exact trivial | refine ⟨rfl, ?_⟩))
        · (repeat (first | (refine lw_add rfl rfl ?_ ?_ ?_; iterate 2 omega) | refine lw_pure hT rfl ?_ | refine lw_nil ?_ | refine cw_region ?_ | refine qw_then ?_ | refine cw_skip ?_ | (refine lw_goff_f rfl ?_ ?_; focus (first | with_reducible rfl | with_reducible exact Bool.not_false | with_reducible exact Bool.not_true)) | refine qw_block ?_ | (refine cw_cond_f rfl ?_ ?_; focus (first | with_reducible rfl | with_reducible exact Bool.not_false | with_reducible exact Bool.not_true))))
          refine qw_round (k + 1) ?_ ⟨hk3, rfl⟩ (by omega)
          rw [no (by rw [e2, Bool.false_and, Bool.and_false])]
          exact (by repeat (first | exact trivial | refine ⟨rfl, ?_⟩))
      · (repeat (first | (refine lw_add rfl rfl ?_ ?_ ?_; iterate 2 omega) | refine lw_pure hT rfl ?_ | refine lw_nil ?_ | refine cw_region ?_ | refine qw_then ?_ | refine cw_skip ?_ | (refine lw_goff_f rfl ?_ ?_; focus (first | with_reducible rfl | with_reducible exact Bool.not_false | with_reducible exact Bool.not_true)) | refine qw_block ?_ | (refine cw_cond_f rfl ?_ ?_; focus (first | with_reducible rfl | with_reducible exact Bool.not_false | with_reducible exact Bool.not_true))))
        refine qw_round (k + 1) ?_ ⟨hk3, rfl⟩ (by omega)
        rw [no (by rw [e1, Bool.false_and])]
        exact (by repeat (first | exact trivial | refine ⟨rfl, ?_⟩))
    · have : k = 3 := by have := of_decide_eq_false e; omega
      subst this
      have e3 : x.ps.take 3 = x.ps := by rw [← hE.three]; exact List.take_length
      have eh : ((x.ps.take 3).any fun q => decide (x.state = 0) && (decide (q.state = 0) && decide (q.holder = who))) = x.holds who := by
        rw [e3]
        unfold EntD.holds
        cases decide (x.state = 0) with
        | true => simp
        | false => simp
      rw [eh]
      have hu5 := hu.ex hx35
      (repeat (first | refine lw_pure hT rfl ?_ | refine lw_nil ?_ | refine cw_seq ?_ | refine cw_region ?_ | refine qw_then ?_ | refine cw_exit ?_ | refine qw_block_exit ?_ | refine qw_then_exit ?_))
      refine cw_cond rfl (fun eh' => ?_) (fun eh' => ?_)
      · (repeat (first | refine lw_pure hT rfl ?_ | refine cw_region ?_))
        refine lw_load hT rfl rfl (v := .string x.bill.number) (hb75.cell 0) ?_
        skip
        refine lw_call hT rfl rfl (r23_put' x.bill.number hu5 (by have := (hx03.trans hx35).size; omega) (by rw [putAll_len]; have := List.length_filter_le (fun e : EntD => e.holds who) (l.take i); simp at this ⊢; omega)) ?_
        rintro u' w6 ⟨hu', hx6⟩
        (repeat (first | (refine lw_add rfl rfl ?_ ?_ ?_; iterate 2 omega) | refine lw_pure hT rfl ?_ | refine lw_nil ?_ | refine cw_region ?_ | refine qw_then ?_ | refine qw_block ?_))
        refine qw_round (x := (i, u)) (i + 1, u') (by repeat (first | exact trivial | refine ⟨rfl, ?_⟩)) ⟨hlt, (hx3.trans hx35).trans hx6, ?_⟩ (by show l.length - (i + 1) < l.length - i; omega)
        rw [etake, List.filter_append, List.map_append]
        simp only [List.filter_cons, eh', if_true, List.filter_nil, List.map_cons, List.map_nil]
        rw [putAll_snoc]; exact hu'
      · (repeat (first | (refine lw_add rfl rfl ?_ ?_ ?_; iterate 2 omega) | refine lw_pure hT rfl ?_ | refine lw_nil ?_ | refine cw_region ?_ | refine qw_then ?_ | refine cw_skip ?_ | refine qw_block ?_))
        refine qw_round (x := (i, u)) (i + 1, u) (by repeat (first | exact trivial | refine ⟨rfl, ?_⟩)) ⟨hlt, hx3.trans hx35, ?_⟩ (by show l.length - (i + 1) < l.length - i; omega)
        rw [etake, List.filter_append, List.map_append]
        simp only [List.filter_cons, eh', List.filter_nil, List.map_nil, List.append_nil, Bool.false_eq_true, if_false]
        exact hu5
  · have : i = l.length := by have := of_decide_eq_false e; omega
    subst this
    rw [List.take_length] at hu
    (repeat (first | refine lw_pure hT rfl ?_ | refine lw_nil ?_ | refine cw_seq ?_ | refine cw_region ?_ | refine qw_then ?_ | refine cw_ret ?_ | refine cw_exit ?_ | refine qw_block_exit ?_ | refine qw_then_exit ?_))
    exact qw_ret rfl ⟨hu, hx03⟩
end Go.Proofs.YtfbjpfgglgffgaaGreat
