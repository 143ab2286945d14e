import Derived.Test.YtnglkhnfmbnfeaaGreatMCs1
set_option linter.unusedVariables false
set_option linter.unusedSimpArgs false
set_option linter.unusedSectionVars false
set_option linter.unnecessarySimpa false
namespace Go.Proofs.YtnglkhnfmbnfeaaGreat
open Go Go.SK
theorem r_letter (c : Int) (w : World) : Ret Tryz.prog 137 [.int .u8 c] w fun v w' => v = .bool (lowB c) ∧ w = w' := by
  refine ret_of Tryz.func137 Tryz.ntmps137 rfl rfl rfl ?_
  (repeat (first | refine lw_pure hT rfl ?_ | refine lw_nil ?_ | refine cw_seq ?_ | refine cw_region ?_ | refine qw_then ?_))
  refine lw_guard rfl (fun h => ?_) (fun h => ?_) <;> (repeat (first | refine lw_pure hT rfl ?_ | refine lw_nil ?_ | refine qw_then ?_ | refine cw_ret ?_ | (refine lw_gon_t rfl ?_ ?_; focus with_reducible (first | rfl | exact Bool.not_false | exact Bool.not_true)) | (refine lw_goff_f rfl ?_ ?_; focus with_reducible (first | rfl | exact Bool.not_false | exact Bool.not_true)))) <;> refine qw_ret rfl ⟨?_, rfl⟩ <;> simp at h <;> simp [oneOr, lowB, h]
  omega
theorem r_digit (c : Int) (w : World) : Ret Tryz.prog 138 [.int .u8 c] w fun v w' => v = .bool (digB c) ∧ w = w' := by
  refine ret_of Tryz.func138 Tryz.ntmps138 rfl rfl rfl ?_
  (repeat (first | refine lw_pure hT rfl ?_ | refine lw_nil ?_ | refine cw_seq ?_ | refine cw_region ?_ | refine qw_then ?_))
  refine lw_guard rfl (fun h => ?_) (fun h => ?_) <;> (repeat (first | refine lw_pure hT rfl ?_ | refine lw_nil ?_ | refine qw_then ?_ | refine cw_ret ?_ | (refine lw_gon_t rfl ?_ ?_; focus with_reducible (first | rfl | exact Bool.not_false | exact Bool.not_true)) | (refine lw_goff_f rfl ?_ ?_; focus with_reducible (first | rfl | exact Bool.not_false | exact Bool.not_true)))) <;> refine qw_ret rfl ⟨?_, rfl⟩ <;> simp at h <;> simp [oneOr, digB, h]
  omega
set_option maxHeartbeats 400000 in
theorem r_Name (s : ByteArray) (w : World) (hs : s.size ≤ maxLen) : Ret Tryz.prog 100 [.string s] w fun v w' => v = .bool (nameB s) ∧ w = w' := by
  unfold maxLen at hs
  refine ret_of Tryz.func100 Tryz.ntmps100 rfl rfl rfl ?_
  (repeat (first | refine lw_pure hT rfl ?_ | refine lw_nil ?_ | refine cw_seq ?_ | refine cw_region ?_ | refine qw_then ?_ | refine cw_block ?_))
  refine cw_loop (fun i : Nat => [(0, .string s), (3, .int .i64 (i : Nat))]) (fun i w' => w = w' ∧ i ≤ s.size ∧ ((bs s).take i).all signB = true) (fun i => s.size - i) 0 (by repeat (first | exact trivial | refine ⟨rfl, ?_⟩)) ⟨rfl, Nat.zero_le _, by simp⟩ ?_
  rintro i _ ⟨rfl, hi, ha⟩
  (repeat (first | refine lw_pure hT rfl ?_ | refine lw_nil ?_ | refine cw_seq ?_ | refine cw_region ?_ | refine qw_then ?_))
  refine cw_cond rfl (fun h => ?_) (fun h => ?_)
  · have hlt : i < s.size := by simpa using h
    have hno : signB (s[i].toNat : Int) = false → nameB s = false := fun h => by
      rw [nameB, all_split (bs_get s i hlt), h]; simp
    have hyes : signB (s[i].toNat : Int) = true → ((bs s).take (i + 1)).all signB = true := fun h => by rw [take_all_succ (bs_get s i hlt), ha, h]; rfl
    (repeat (first | refine lw_pure hT rfl ?_ | refine cw_seq ?_ | refine cw_region ?_ | refine qw_then ?_ | refine cw_skip ?_ | refine cw_block ?_))
    refine lw_byte hT rfl rfl rfl i rfl hlt ?_
    skip
    refine lw_call hT rfl rfl (r_letter _ _) ?_
    rintro _ _ ⟨rfl, rfl⟩
    (repeat (refine lw_pure hT rfl ?_))
    refine lw_guard rfl (fun h1 => ?_) (fun h1 => ?_)
    · rw [Bool.not_eq_true'] at h1
      (repeat (first | refine lw_pure hT rfl ?_ | (refine lw_gon_t rfl ?_ ?_; focus with_reducible (first | rfl | exact Bool.not_false | exact Bool.not_true))))
      refine lw_byte hT rfl rfl rfl i rfl hlt ?_
      (repeat (refine lw_gon_t rfl ?_ ?_; focus with_reducible (first | rfl | exact Bool.not_false | exact Bool.not_true)))
      refine lw_call hT rfl rfl (r_digit _ _) ?_
      rintro _ _ ⟨rfl, rfl⟩
      (repeat (first | refine lw_pure hT rfl ?_ | (refine lw_gon_t rfl ?_ ?_; focus with_reducible (first | rfl | exact Bool.not_false | exact Bool.not_true))))
      refine lw_guard rfl (fun h2 => ?_) (fun h2 => ?_)
      · rw [Bool.not_eq_true'] at h2
        (repeat (first | refine lw_pure hT rfl ?_ | (refine lw_gon_t rfl ?_ ?_; focus with_reducible (first | rfl | exact Bool.not_false | exact Bool.not_true))))
        refine lw_byte hT rfl rfl rfl i rfl hlt ?_
        (repeat (first | refine lw_pure hT rfl ?_ | refine lw_nil ?_ | refine qw_then ?_ | (refine lw_gon_t rfl ?_ ?_; focus with_reducible (first | rfl | exact Bool.not_false | exact Bool.not_true))))
        refine cw_cond rfl (fun h3 => ?_) (fun h3 => ?_)
        · (repeat (first | refine lw_pure hT rfl ?_ | refine lw_nil ?_ | refine cw_seq ?_ | refine cw_region ?_ | refine qw_then ?_ | refine cw_ret ?_ | refine qw_then_ret ?_ | refine qw_block_ret ?_))
          exact qw_ret rfl ⟨by rw [hno (by simp at h3; simp [signB, h1, h2, h3])]; rfl, rfl⟩
        · (repeat (first | (refine lw_add rfl rfl ?_ ?_ ?_; iterate 2 omega) | refine lw_pure hT rfl ?_ | refine lw_nil ?_ | refine cw_region ?_ | refine qw_then ?_ | refine cw_skip ?_ | refine qw_block ?_))
          exact qw_round (i + 1) (by repeat (first | exact trivial | refine ⟨rfl, ?_⟩)) ⟨rfl, hlt, hyes (by simp at h3; simp [signB, h3])⟩ (by omega)
      · rw [Bool.not_eq_false'] at h2
        (repeat (first | (refine lw_add rfl rfl ?_ ?_ ?_; iterate 2 omega) | refine lw_pure hT rfl ?_ | refine lw_nil ?_ | refine cw_region ?_ | refine qw_then ?_ | refine cw_skip ?_ | (refine lw_goff_f rfl ?_ ?_; focus with_reducible (first | rfl | exact Bool.not_false | exact Bool.not_true)) | refine qw_block ?_ | (refine cw_cond_f rfl ?_ ?_; focus with_reducible (first | rfl | exact Bool.not_false | exact Bool.not_true))))
        exact qw_round (i + 1) (by repeat (first | exact trivial | refine ⟨rfl, ?_⟩)) ⟨rfl, hlt, hyes (by simp [signB, h2])⟩ (by omega)
    · rw [Bool.not_eq_false'] at h1
      (repeat (first | (refine lw_add rfl rfl ?_ ?_ ?_; iterate 2 omega) | refine lw_pure hT rfl ?_ | refine lw_nil ?_ | refine cw_region ?_ | refine qw_then ?_ | refine cw_skip ?_ | (refine lw_goff_f rfl ?_ ?_; focus with_reducible (first | rfl | exact Bool.not_false | exact Bool.not_true)) | refine qw_block ?_ | (refine cw_cond_f rfl ?_ ?_; focus with_reducible (first | rfl | exact Bool.not_false | exact Bool.not_true))))
      exact qw_round (i + 1) (by repeat (first | exact trivial | refine ⟨rfl, ?_⟩)) ⟨rfl, hlt, hyes (by simp [signB, h1])⟩ (by omega)
  · have : i = s.size := by simp at h; omega
    subst this
    rw [List.take_of_length_le (by rw [bs_length]; exact Nat.le_refl _)] at ha
    (repeat (first | refine lw_pure hT rfl ?_ | refine cw_seq ?_ | refine cw_region ?_ | refine qw_then ?_ | refine cw_exit ?_ | refine qw_block_exit ?_ | refine qw_then_exit ?_))
    refine lw_guard rfl (fun h1 => ?_) (fun h1 => ?_)
    · have h1 : 1 ≤ s.size := by simp at h1; omega
      (repeat (first | refine lw_pure hT rfl ?_ | refine lw_nil ?_ | refine qw_then ?_ | refine cw_ret ?_ | (refine lw_gon_t rfl ?_ ?_; focus with_reducible (first | rfl | exact Bool.not_false | exact Bool.not_true))))
      refine qw_ret rfl ⟨?_, rfl⟩
      simp [oneOr, nameB, h1, ha]; omega
    · have h1 : ¬ 1 ≤ s.size := by simp at h1; omega
      (repeat (first | refine lw_pure hT rfl ?_ | refine lw_nil ?_ | refine qw_then ?_ | refine cw_ret ?_ | (refine lw_goff_f rfl ?_ ?_; focus with_reducible (first | rfl | exact Bool.not_false | exact Bool.not_true))))
      exact qw_ret rfl ⟨by simp [oneOr, nameB, h1], rfl⟩
theorem headB_false {l : List Int} {i : Nat} (hi : i < 10) (h : (i < 4 ∧ lowB (l.getD i 0) = false) ∨ (4 ≤ i ∧ digB (l.getD i 0) = false)) : headB l = false := by
  cases hb : headB l with
  | false => rfl
  | true =>
    simp only [headB, Bool.and_eq_true, decide_eq_true_eq] at hb
    obtain ⟨h1, h2, h3⟩ := hb
    rcases h with ⟨h4, h5⟩ | ⟨h4, h5⟩
    · have := all_get h2 (i := i) (by simp; omega)
      rw [show (l.take 4).getD i 0 = l.getD i 0 from by simp [List.getD_eq_getElem?_getD, List.getElem?_take, h4], h5] at this
      cases this
    · have := all_get h3 (i := i - 4) (by simp; omega)
      have e : 4 + (i - 4) = i := by omega
      rw [show ((l.drop 4).take 6).getD (i - 4) 0 = l.getD i 0 from by simp [List.getD_eq_getElem?_getD, List.getElem?_take, List.getElem?_drop, show i - 4 < 6 by omega, e], h5] at this
      cases this
theorem all_of_get {p : Int → Bool} {l : List Int} (h : ∀ i, i < l.length → p (l.getD i 0) = true) : l.all p = true := by
  rw [List.all_eq_true]
  intro x hx
  obtain ⟨i, hi, rfl⟩ := List.mem_iff_getElem.1 hx
  have := h i hi
  rwa [List.getD_eq_getElem?_getD, List.getElem?_eq_getElem hi] at this
theorem headB_true {l : List Int} (hl : 10 ≤ l.length) (h : ∀ i, i < 10 → (i < 4 → lowB (l.getD i 0) = true) ∧ (4 ≤ i → digB (l.getD i 0) = true)) : headB l = true := by
  simp only [headB, Bool.and_eq_true, decide_eq_true_eq]
  refine ⟨hl, all_of_get fun i hi => ?_, all_of_get fun i hi => ?_⟩
  · simp only [List.length_take] at hi
    have := (h i (by omega)).1 (by omega)
    simpa [List.getD_eq_getElem?_getD, List.getElem?_take, show i < 4 by omega] using this
  · simp only [List.length_take, List.length_drop] at hi
    have := (h (4 + i) (by omega)).2 (by omega)
    simpa [List.getD_eq_getElem?_getD, List.getElem?_take, List.getElem?_drop, show i < 6 by omega] using this
set_option maxHeartbeats 400000 in
theorem r_head (s : ByteArray) (w : World) (hs : s.size ≤ maxLen) : Ret Tryz.prog 162 [.string s] w fun v w' => v = .bool (headB (bs s)) ∧ w = w' := by
  unfold maxLen at hs
  refine ret_of Tryz.func162 Tryz.ntmps162 rfl rfl rfl ?_
  (repeat (first | refine lw_pure hT rfl ?_ | refine lw_nil ?_ | refine cw_seq ?_ | refine cw_region ?_ | refine qw_then ?_))
  refine cw_cond rfl (fun h => ?_) (fun h => ?_)
  · have h1 : ¬ 10 ≤ (bs s).length := by rw [bs_length]; simp at h; omega
    (repeat (first | refine lw_pure hT rfl ?_ | refine lw_nil ?_ | refine cw_seq ?_ | refine cw_region ?_ | refine qw_then ?_ | refine cw_ret ?_ | refine qw_then_ret ?_))
    exact qw_ret rfl ⟨by simp [oneOr, headB, h1], rfl⟩
  · have h1 : 10 ≤ s.size := by simp at h; omega
    (repeat (first | refine lw_pure hT rfl ?_ | refine lw_nil ?_ | refine cw_seq ?_ | refine cw_region ?_ | refine qw_then ?_ | refine cw_skip ?_ | refine cw_block ?_))
    refine cw_loop (fun i : Nat => [(0, .string s), (3, .int .i64 (i : Nat))]) (fun i w' => w = w' ∧ i ≤ 10 ∧ ∀ j, j < i → (j < 4 → lowB ((bs s).getD j 0) = true) ∧ (4 ≤ j → digB ((bs s).getD j 0) = true)) (fun i => 10 - i) 0 (by repeat (first | exact trivial | refine ⟨rfl, ?_⟩)) ⟨rfl, Nat.zero_le _, fun j hj => by omega⟩ ?_
    rintro i _ ⟨rfl, hi, ha⟩
    (repeat (first | refine lw_pure hT rfl ?_ | refine lw_nil ?_ | refine cw_seq ?_ | refine cw_region ?_ | refine qw_then ?_))
    refine cw_cond rfl (fun h => ?_) (fun h => ?_)
    · have hi' : i < 10 := by simp at h; omega
      have hlt : i < s.size := by omega
      have eb := bs_getD s i hlt
      have hno := fun x => headB_false (l := bs s) hi' x
      rw [eb] at hno
      have hyes : (i < 4 → lowB (s[i].toNat : Int) = true) ∧ (4 ≤ i → digB (s[i].toNat : Int) = true) → ∀ j, j < i + 1 → (j < 4 → lowB ((bs s).getD j 0) = true) ∧ (4 ≤ j → digB ((bs s).getD j 0) = true) := fun hx j hj => by
        by_cases e : j = i
        · subst e; rw [eb]; exact hx
        · exact ha j (by omega)
      clear ha eb
      (repeat (first | refine lw_pure hT rfl ?_ | refine cw_seq ?_ | refine cw_region ?_ | refine qw_then ?_ | refine cw_skip ?_ | refine cw_block ?_))
      refine lw_guard rfl (fun h2 => ?_) (fun h2 => ?_)
      · have h2 : i < 4 := by simp at h2; omega
        (repeat (first | refine lw_pure hT rfl ?_ | (refine lw_gon_t rfl ?_ ?_; focus with_reducible (first | rfl | exact Bool.not_false | exact Bool.not_true))))
        refine lw_byte hT rfl rfl rfl i rfl hlt ?_
        (repeat (refine lw_gon_t rfl ?_ ?_; focus with_reducible (first | rfl | exact Bool.not_false | exact Bool.not_true)))
        refine lw_call hT rfl rfl (r_letter _ _) ?_
        rintro _ _ ⟨rfl, rfl⟩
        (repeat (first | refine lw_pure hT rfl ?_ | (refine lw_gon_t rfl ?_ ?_; focus with_reducible (first | rfl | exact Bool.not_false | exact Bool.not_true))))
        refine lw_guard rfl (fun h3 => ?_) (fun h3 => ?_)
        · rw [Bool.not_eq_true'] at h3
          (repeat (first | refine lw_pure hT rfl ?_ | refine lw_nil ?_ | refine cw_seq ?_ | refine cw_region ?_ | refine qw_then ?_ | refine cw_ret ?_ | refine qw_then_ret ?_ | refine lw_goff_u rfl ?_ | (refine lw_goff_t rfl ?_ ?_; focus with_reducible (first | rfl | exact Bool.not_false | exact Bool.not_true)) | refine qw_block_ret ?_ | (refine cw_cond_t rfl ?_ ?_; focus with_reducible (first | rfl | exact Bool.not_false | exact Bool.not_true))))
          exact qw_ret rfl ⟨by rw [hno (.inl ⟨h2, h3⟩)]; rfl, rfl⟩
        · rw [Bool.not_eq_false'] at h3
          (repeat (first | refine lw_pure hT rfl ?_ | (refine lw_gon_f rfl ?_ ?_; focus with_reducible (first | rfl | exact Bool.not_false | exact Bool.not_true))))
          refine lw_guard rfl (fun h4 => ?_) (fun _ => ?_)
          · simp at h4; omega
          · (repeat (first | (refine lw_add rfl rfl ?_ ?_ ?_; iterate 2 omega) | refine lw_pure hT rfl ?_ | refine lw_nil ?_ | refine cw_region ?_ | refine qw_then ?_ | refine cw_skip ?_ | (refine lw_goff_f rfl ?_ ?_; focus with_reducible (first | rfl | exact Bool.not_false | exact Bool.not_true)) | (refine lw_gon_f rfl ?_ ?_; focus with_reducible (first | rfl | exact Bool.not_false | exact Bool.not_true)) | refine qw_block ?_ | (refine cw_cond_f rfl ?_ ?_; focus with_reducible (first | rfl | exact Bool.not_false | exact Bool.not_true))))
            exact qw_round (i + 1) (by repeat (first | exact trivial | refine ⟨rfl, ?_⟩)) ⟨rfl, by omega, hyes ⟨fun _ => h3, fun _ => by omega⟩⟩ (by omega)
      · have h2 : 4 ≤ i := by simp at h2; omega
        (repeat (first | refine lw_pure hT rfl ?_ | (refine lw_goff_f rfl ?_ ?_; focus with_reducible (first | rfl | exact Bool.not_false | exact Bool.not_true)) | (refine lw_gon_f rfl ?_ ?_; focus with_reducible (first | rfl | exact Bool.not_false | exact Bool.not_true))))
        refine lw_guard rfl (fun _ => ?_) (fun h4 => ?_)
        · (repeat (first | refine lw_pure hT rfl ?_ | (refine lw_gon_t rfl ?_ ?_; focus with_reducible (first | rfl | exact Bool.not_false | exact Bool.not_true))))
          refine lw_byte hT rfl rfl rfl i rfl hlt ?_
          (repeat (refine lw_gon_t rfl ?_ ?_; focus with_reducible (first | rfl | exact Bool.not_false | exact Bool.not_true)))
          refine lw_call hT rfl rfl (r_digit _ _) ?_
          rintro _ _ ⟨rfl, rfl⟩
          (repeat (first | refine lw_pure hT rfl ?_ | refine lw_nil ?_ | refine qw_then ?_ | (refine lw_gon_t rfl ?_ ?_; focus with_reducible (first | rfl | exact Bool.not_false | exact Bool.not_true)) | (refine lw_gon_f rfl ?_ ?_; focus with_reducible (first | rfl | exact Bool.not_false | exact Bool.not_true))))
          refine cw_cond rfl (fun h3 => ?_) (fun h3 => ?_)
          · rw [Bool.not_eq_true'] at h3
            (repeat (first | refine lw_pure hT rfl ?_ | refine lw_nil ?_ | refine cw_seq ?_ | refine cw_region ?_ | refine qw_then ?_ | refine cw_ret ?_ | refine qw_then_ret ?_ | refine qw_block_ret ?_))
            exact qw_ret rfl ⟨by rw [hno (.inr ⟨h2, h3⟩)]; rfl, rfl⟩
          · rw [Bool.not_eq_false'] at h3
            (repeat (first | (refine lw_add rfl rfl ?_ ?_ ?_; iterate 2 omega) | refine lw_pure hT rfl ?_ | refine lw_nil ?_ | refine cw_region ?_ | refine qw_then ?_ | refine cw_skip ?_ | refine qw_block ?_))
            exact qw_round (i + 1) (by repeat (first | exact trivial | refine ⟨rfl, ?_⟩)) ⟨rfl, by omega, hyes ⟨fun _ => by omega, fun _ => h3⟩⟩ (by omega)
        · simp at h4; omega
    · have : i = 10 := by simp at h; omega
      subst this
      (repeat (first | refine lw_pure hT rfl ?_ | refine lw_nil ?_ | refine cw_seq ?_ | refine cw_region ?_ | refine qw_then ?_ | refine cw_ret ?_ | refine cw_exit ?_ | refine qw_block_exit ?_ | refine qw_then_exit ?_))
      exact qw_ret rfl ⟨by rw [headB_true (by rw [bs_length]; exact h1) ha]; rfl, rfl⟩
theorem head_low {l : List Int} (h : headB l = true) {i : Nat} (hi : i < 4) : lowB (l.getD i 0) = true := by
  simp only [headB, Bool.and_eq_true, decide_eq_true_eq] at h
  have := all_get h.2.1 (i := i) (by simp; omega)
  simpa [List.getD_eq_getElem?_getD, List.getElem?_take, hi] using this
theorem head_dig {l : List Int} (h : headB l = true) {i : Nat} (h4 : 4 ≤ i) (hi : i < 10) : digB (l.getD i 0) = true := by
  simp only [headB, Bool.and_eq_true, decide_eq_true_eq] at h
  have := all_get h.2.2 (i := i - 4) (by simp; omega)
  have e : 4 + (i - 4) = i := by omega
  simpa [List.getD_eq_getElem?_getD, List.getElem?_take, List.getElem?_drop, show i - 4 < 6 by omega, e] using this
theorem val_low {c : Int} (h : lowB c = true) : valI c = c - 96 ∧ 97 ≤ c ∧ c ≤ 122 := by
  have : 97 ≤ c ∧ c ≤ 122 := by simpa [lowB] using h
  simp [valI, h]; omega
theorem val_dig {c : Int} (h : digB c = true) : valI c = c - 48 ∧ 48 ≤ c ∧ c ≤ 57 := by
  have h' : 48 ≤ c ∧ c ≤ 57 := by simpa [digB] using h
  have : lowB c = false := by simp [lowB]; omega
  simp [valI, this, h']
set_option maxHeartbeats 800000 in
theorem r_Sum (s : ByteArray) (w : World) (hs : s.size ≤ maxLen) : Ret Tryz.prog 163 [.string s] w fun v w' => v = .int .i64 (sumI (bs s)) ∧ w = w' := by
  refine ret_of Tryz.func163 Tryz.ntmps163 rfl rfl rfl ?_
  (repeat (first | refine lw_pure hT rfl ?_ | refine lw_nil ?_ | refine cw_seq ?_ | refine cw_region ?_ | refine qw_then ?_))
  refine lw_call hT rfl rfl (r_head s w hs) ?_
  rintro _ _ ⟨rfl, rfl⟩
  (repeat (first | refine lw_pure hT rfl ?_ | refine lw_nil ?_ | refine qw_then ?_))
  refine cw_cond rfl (fun h => ?_) (fun hh => ?_)
  · rw [Bool.not_eq_true'] at h
    (repeat (first | refine lw_pure hT rfl ?_ | refine lw_nil ?_ | refine cw_seq ?_ | refine cw_region ?_ | refine qw_then ?_ | refine cw_ret ?_ | refine qw_then_ret ?_))
    exact qw_ret rfl ⟨by simp [oneOr, sumI, h], rfl⟩
  · rw [Bool.not_eq_false'] at hh
    have h10 : 10 ≤ s.size := by
      have := hh
      simp only [headB, Bool.and_eq_true, decide_eq_true_eq, bs_length] at this
      exact this.1
    (repeat (first | refine lw_pure hT rfl ?_ | refine lw_nil ?_ | refine cw_seq ?_ | refine cw_region ?_ | refine qw_then ?_ | refine cw_skip ?_ | refine cw_block ?_))
    refine cw_loop (fun i : Nat => [(0, .string s), (3, .int .i64 (sumTo (bs s) i)), (4, .int .i64 (i : Nat))]) (fun i w' => w = w' ∧ i ≤ 10) (fun i => 10 - i) 0 (by repeat (first | exact trivial | refine ⟨rfl, ?_⟩)) ⟨rfl, by omega⟩ ?_
    rintro i _ ⟨rfl, hi⟩
    (repeat (first | refine lw_pure hT rfl ?_ | refine lw_nil ?_ | refine cw_seq ?_ | refine cw_region ?_ | refine qw_then ?_))
    refine cw_cond rfl (fun h => ?_) (fun h => ?_)
    · have hi' : i < 10 := by simp at h; omega
      have hlt : i < s.size := by omega
      have hb := sumTo_bd hh i (by omega)
      have eb := bs_getD s i hlt
      have hc0 : (0 : Int) ≤ (s[i].toNat : Int) ∧ (s[i].toNat : Int) ≤ 255 := by
        have := UInt8.toNat_lt s[i]; omega
      by_cases h4 : i < 4
      · have hv := val_low (eb ▸ head_low hh h4)
        have hvb := valI_bd (.inl (eb ▸ head_low hh h4))
        have hm1 : 0 ≤ ((s[i].toNat : Int) - 96) * ((i : Int) + 1) := Int.mul_nonneg (by omega) (by omega)
        have hm2 : ((s[i].toNat : Int) - 96) * ((i : Int) + 1) ≤ 26 * 10 := Int.mul_le_mul (by omega) (by omega) (by omega) (by omega)
        have e1 := hv.1
        have e2 := hv.2
        clear hv hvb
        (repeat (first | refine lw_pure hT rfl ?_ | refine cw_seq ?_ | refine cw_region ?_ | refine qw_then ?_ | refine cw_skip ?_ | refine cw_block ?_))
        refine lw_byte hT rfl rfl rfl i rfl hlt ?_
        (repeat (first | (refine lw_conv64 hT rfl rfl rfl ?_ ?_ ?_; iterate 2 omega) | (refine lw_sub rfl rfl ?_ ?_ ?_; iterate 2 omega) | refine lw_pure hT rfl ?_ | refine lw_nil ?_ | refine cw_seq ?_ | refine cw_region ?_ | refine qw_then ?_))
        refine cw_cond rfl (fun h => ?_) (fun h => ?_)
        · (repeat (first | refine lw_pure hT rfl ?_ | refine cw_region ?_))
          refine lw_byte hT rfl rfl rfl i rfl hlt ?_
          (repeat (first | (refine lw_conv64 hT rfl rfl rfl ?_ ?_ ?_; iterate 2 omega) | (refine lw_add rfl rfl ?_ ?_ ?_; iterate 2 omega) | (refine lw_sub rfl rfl ?_ ?_ ?_; iterate 2 omega) | (refine lw_mul rfl rfl ?_ ?_ ?_; iterate 2 omega) | refine lw_pure hT rfl ?_ | refine lw_nil ?_ | refine cw_region ?_ | refine qw_then ?_ | refine qw_block ?_))
          refine qw_round (i + 1) ?_ ⟨rfl, by omega⟩ (by omega)
          simp only [subB, sumTo, eb, e1]
          exact (by repeat (first | exact trivial | refine ⟨rfl, ?_⟩))
        · simp at h; omega
      · have hv := val_dig (eb ▸ head_dig hh (by omega) hi')
        have hm1 : 0 ≤ ((s[i].toNat : Int) - 48) * ((i : Int) + 1) := Int.mul_nonneg (by omega) (by omega)
        have hm2 : ((s[i].toNat : Int) - 48) * ((i : Int) + 1) ≤ 26 * 10 := Int.mul_le_mul (by omega) (by omega) (by omega) (by omega)
        have e1 := hv.1
        have e2 := hv.2
        clear hv
        (repeat (first | refine lw_pure hT rfl ?_ | refine cw_seq ?_ | refine cw_region ?_ | refine qw_then ?_ | refine cw_skip ?_ | refine cw_block ?_))
        refine lw_byte hT rfl rfl rfl i rfl hlt ?_
        (repeat (first | (refine lw_conv64 hT rfl rfl rfl ?_ ?_ ?_; iterate 2 omega) | (refine lw_sub rfl rfl ?_ ?_ ?_; iterate 2 omega) | refine lw_pure hT rfl ?_ | refine lw_nil ?_ | refine cw_seq ?_ | refine cw_region ?_ | refine qw_then ?_))
        refine cw_cond rfl (fun h => ?_) (fun h => ?_)
        · simp at h; omega
        · (repeat (first | (refine lw_add rfl rfl ?_ ?_ ?_; iterate 2 omega) | (refine lw_mul rfl rfl ?_ ?_ ?_; iterate 2 omega) | refine lw_pure hT rfl ?_ | refine lw_nil ?_ | refine cw_region ?_ | refine qw_then ?_ | refine cw_skip ?_ | refine qw_block ?_))
          refine qw_round (i + 1) ?_ ⟨rfl, by omega⟩ (by omega)
          simp only [subB, sumTo, eb, e1]
          exact (by repeat (first | exact trivial | refine ⟨rfl, ?_⟩))
    · have : i = 10 := by simp at h; omega
      subst this
      (repeat (first | refine lw_pure hT rfl ?_ | refine cw_seq ?_ | refine cw_region ?_ | refine qw_then ?_ | refine cw_exit ?_ | refine qw_block_exit ?_ | refine qw_then_exit ?_))
      refine lw_rem rfl rfl (by decide) ?_
      (repeat (first | refine lw_pure hT rfl ?_ | refine lw_nil ?_ | refine qw_then ?_ | refine cw_ret ?_))
      exact qw_ret rfl ⟨by simp [oneOr, sumI, hh], rfl⟩
theorem rightB_eq {s : ByteArray} (h : s.size = 12) : rightB s = (headB (bs s) && (digB ((bs s).getD 10 0) && (digB ((bs s).getD 11 0) && decide (sumI (bs s) = 10 * ((bs s).getD 10 0 - 48) + (bs s).getD 11 0 - 48)))) := by
  have hl : (bs s).length = 12 := by rw [bs_length, h]
  unfold rightB
  rw [h]
  generalize bs s = l at hl ⊢
  have e : l.drop 10 = [l.getD 10 0, l.getD 11 0] := by
    apply List.ext_getElem?
    intro j
    match j with
    | 0 => simp [List.getElem?_drop, List.getElem?_eq_getElem (show 10 < l.length by omega)]
    | 1 => simp [List.getElem?_drop, List.getElem?_eq_getElem (show 11 < l.length by omega)]
    | j + 2 => simp [List.getElem?_drop]; omega
  rw [e]
  generalize l.getD 10 0 = a
  generalize l.getD 11 0 = b
  cases ha : digB a with
  | false => simp [ha]
  | true =>
    cases hb : digB b with
    | false => simp [ha, hb]
    | true =>
      obtain ⟨va, a1, a2⟩ := val_dig ha
      obtain ⟨vb, b1, b2⟩ := val_dig hb
      have e2 : numTo [a, b] 2 = 10 * (a - 48) + b - 48 := by
        simp only [numTo, List.getD_cons_zero, List.getD_cons_succ, va, vb]; omega
      cases hh : headB l with
      | true => simp [ha, hb, e2]
      | false =>
        have e3 : sumI l = -1 := by simp [sumI, hh]
        rw [e2, e3]
        simp [ha, hb]; omega
set_option maxHeartbeats 800000 in
theorem r_Right (s : ByteArray) (w : World) (hs : s.size ≤ maxLen) : Ret Tryz.prog 146 [.string s] w fun v w' => v = .bool (rightB s) ∧ Ex w w' := by
  refine ret_of Tryz.func146 Tryz.ntmps146 rfl rfl rfl ?_
  (repeat (first | refine lw_pure hT rfl ?_ | refine lw_nil ?_ | refine cw_seq ?_ | refine cw_region ?_ | refine qw_then ?_))
  refine cw_draw hM (fun w' => Ex w w') [] rfl rfl (by repeat with_reducible (first | refine nop_then ?_ | refine nop_block ?_ | exact nop_body)) (fun w1 hx _ => ⟨hx, ?_⟩)
  (refine rw_takeP 0 rfl rfl (by kernel_rfl) (by kernel_rfl) (by kernel_rfl) (by kernel_rfl) rfl (yo_pure hT rfl) ?_; refine rw_takeP 1 rfl rfl (by kernel_rfl) (by kernel_rfl) (by kernel_rfl) (by kernel_rfl) rfl (yo_pure hT rfl) ?_; refine rw_takeP 2 rfl rfl (by kernel_rfl) (by kernel_rfl) (by kernel_rfl) (by kernel_rfl) rfl (yo_pure hT rfl) ?_; refine rw_takeP 3 rfl rfl (by kernel_rfl) (by kernel_rfl) (by kernel_rfl) (by kernel_rfl) rfl (yo_pure hT rfl) ?_)
  refine rw_split (d := 6) rfl (fun h1 => ?_) (fun h1 => ?_)
  · have h1 : s.size = 12 := by simp at h1; omega
    have hr := rightB_eq h1
    have e10 := bs_getD s 10 (by omega)
    have e11 := bs_getD s 11 (by omega)
    have b10 : (0 : Int) ≤ (s[10].toNat : Int) ∧ (s[10].toNat : Int) ≤ 255 := by
      have := UInt8.toNat_lt s[10]; omega
    have b11 : (0 : Int) ≤ (s[11].toNat : Int) ∧ (s[11].toNat : Int) ≤ 255 := by
      have := UInt8.toNat_lt s[11]; omega
    rw [e10, e11] at hr
    (refine rw_takeP 4 rfl rfl (by kernel_rfl) (by kernel_rfl) (by kernel_rfl) (by kernel_rfl) rfl (yo_on rfl rfl (yo_pure hT rfl)) ?_)
    refine rw_one 5 rfl (by kernel_rfl) rfl (fun hcl => ?_)
    (repeat (refine lw_gon_t rfl ?_ ?_; focus with_reducible (first | rfl | exact Bool.not_false | exact Bool.not_true)))
    refine lw_call hT rfl rfl (r_head s w1 hs) ?_
    rintro _ _ ⟨rfl, rfl⟩
    (repeat (refine lw_nil ?_))
    refine qw_rw (by repeat with_reducible (first | refine nop_then ?_ | refine nop_block ?_ | exact nop_body)) hcl (fun _ => hx) ?_
    (refine rw_takeP 6 rfl rfl (by kernel_rfl) (by kernel_rfl) (by kernel_rfl) (by kernel_rfl) rfl (yo_pure hT rfl) ?_; refine rw_takeP 7 rfl rfl (by kernel_rfl) (by kernel_rfl) (by kernel_rfl) (by kernel_rfl) rfl (yo_pure hT rfl) ?_)
    refine rw_split (d := 10) rfl (fun h2 => ?_) (fun h2 => ?_)
    · (refine rw_takeP 8 rfl rfl (by kernel_rfl) (by kernel_rfl) (by kernel_rfl) (by kernel_rfl) rfl (yo_on rfl rfl (yo_pure hT rfl)) ?_)
      refine rw_takeP 9 rfl rfl (by kernel_rfl) (by kernel_rfl) (by kernel_rfl) (by kernel_rfl) rfl (yo_on rfl rfl (yo_byte hT rfl rfl rfl 10 rfl (by omega))) ?_
      refine rw_one 10 rfl (by kernel_rfl) rfl (fun hcl => ?_)
      (repeat (refine lw_gon_t rfl ?_ ?_; focus with_reducible (first | rfl | exact Bool.not_false | exact Bool.not_true)))
      refine lw_call hT rfl rfl (r_digit _ w1) ?_
      rintro _ _ ⟨rfl, rfl⟩
      (repeat (refine lw_nil ?_))
      refine qw_rw (by repeat with_reducible (first | refine nop_then ?_ | refine nop_block ?_ | exact nop_body)) hcl (fun _ => hx) ?_
      (refine rw_takeP 11 rfl rfl (by kernel_rfl) (by kernel_rfl) (by kernel_rfl) (by kernel_rfl) rfl (yo_pure hT rfl) ?_; refine rw_takeP 12 rfl rfl (by kernel_rfl) (by kernel_rfl) (by kernel_rfl) (by kernel_rfl) rfl (yo_pure hT rfl) ?_)
      refine rw_split (d := 15) rfl (fun h3 => ?_) (fun h3 => ?_)
      · (refine rw_takeP 13 rfl rfl (by kernel_rfl) (by kernel_rfl) (by kernel_rfl) (by kernel_rfl) rfl (yo_on rfl rfl (yo_pure hT rfl)) ?_)
        refine rw_takeP 14 rfl rfl (by kernel_rfl) (by kernel_rfl) (by kernel_rfl) (by kernel_rfl) rfl (yo_on rfl rfl (yo_byte hT rfl rfl rfl 11 rfl (by omega))) ?_
        refine rw_one 15 rfl (by kernel_rfl) rfl (fun hcl => ?_)
        (repeat (refine lw_gon_t rfl ?_ ?_; focus with_reducible (first | rfl | exact Bool.not_false | exact Bool.not_true)))
        refine lw_call hT rfl rfl (r_digit _ w1) ?_
        rintro _ _ ⟨rfl, rfl⟩
        (repeat (refine lw_nil ?_))
        refine qw_rw (by repeat with_reducible (first | refine nop_then ?_ | refine nop_block ?_ | exact nop_body)) hcl (fun _ => hx) ?_
        (refine rw_takeP 16 rfl rfl (by kernel_rfl) (by kernel_rfl) (by kernel_rfl) (by kernel_rfl) rfl (yo_pure hT rfl) ?_; refine rw_takeP 17 rfl rfl (by kernel_rfl) (by kernel_rfl) (by kernel_rfl) (by kernel_rfl) rfl (yo_pure hT rfl) ?_)
        refine rw_split (d := 20) rfl (fun h4 => ?_) (fun h4 => ?_)
        · (refine rw_takeP 18 rfl rfl (by kernel_rfl) (by kernel_rfl) (by kernel_rfl) (by kernel_rfl) rfl (yo_on rfl rfl (yo_pure hT rfl)) ?_; refine rw_takeP 20 rfl rfl (by kernel_rfl) (by kernel_rfl) (by kernel_rfl) (by kernel_rfl) rfl (yo_on rfl rfl (yo_pure hT rfl)) ?_)
          refine rw_takeP 21 rfl rfl (by kernel_rfl) (by kernel_rfl) (by kernel_rfl) (by kernel_rfl) rfl (yo_on rfl rfl (yo_byte hT rfl rfl rfl 10 rfl (by omega))) ?_
          refine rw_takeP 22 rfl rfl (by kernel_rfl) (by kernel_rfl) (by kernel_rfl) (by kernel_rfl) rfl (yo_on rfl rfl (yo_conv_int hT rfl rfl rfl (IntWalk.i64_in _ ⟨by omega, by omega⟩))) ?_
          refine rw_takeP 23 rfl rfl (by kernel_rfl) (by kernel_rfl) (by kernel_rfl) (by kernel_rfl) rfl (yo_on rfl rfl (yo_sum (r := (s[10].toNat : Int) - 48) rfl rfl (.inr (.inl ⟨rfl, rfl⟩)) (by omega) (by omega))) ?_
          refine rw_takeP 24 rfl rfl (by kernel_rfl) (by kernel_rfl) (by kernel_rfl) (by kernel_rfl) rfl (yo_on rfl rfl (yo_sum (r := 10 * ((s[10].toNat : Int) - 48)) rfl rfl (.inr (.inr ⟨rfl, rfl⟩)) (by omega) (by omega))) ?_
          (refine rw_takeP 25 rfl rfl (by kernel_rfl) (by kernel_rfl) (by kernel_rfl) (by kernel_rfl) rfl (yo_on rfl rfl (yo_pure hT rfl)) ?_)
          refine rw_takeP 26 rfl rfl (by kernel_rfl) (by kernel_rfl) (by kernel_rfl) (by kernel_rfl) rfl (yo_on rfl rfl (yo_byte hT rfl rfl rfl 11 rfl (by omega))) ?_
          refine rw_takeP 27 rfl rfl (by kernel_rfl) (by kernel_rfl) (by kernel_rfl) (by kernel_rfl) rfl (yo_on rfl rfl (yo_conv_int hT rfl rfl rfl (IntWalk.i64_in _ ⟨by omega, by omega⟩))) ?_
          refine rw_takeP 28 rfl rfl (by kernel_rfl) (by kernel_rfl) (by kernel_rfl) (by kernel_rfl) rfl (yo_on rfl rfl (yo_sum (r := 10 * ((s[10].toNat : Int) - 48) + (s[11].toNat : Int)) rfl rfl (.inl ⟨rfl, rfl⟩) (by omega) (by omega))) ?_
          refine rw_takeP 29 rfl rfl (by kernel_rfl) (by kernel_rfl) (by kernel_rfl) (by kernel_rfl) rfl (yo_on rfl rfl (yo_sum (r := 10 * ((s[10].toNat : Int) - 48) + (s[11].toNat : Int) - 48) rfl rfl (.inr (.inl ⟨rfl, rfl⟩)) (by omega) (by omega))) ?_
          refine rw_one 19 rfl (by kernel_rfl) rfl (fun hcl => ?_)
          (repeat (refine lw_gon_t rfl ?_ ?_; focus with_reducible (first | rfl | exact Bool.not_false | exact Bool.not_true)))
          refine lw_call hT rfl rfl (r_Sum s w1 hs) ?_
          rintro _ _ ⟨rfl, rfl⟩
          (repeat (refine lw_nil ?_))
          refine qw_rw (by repeat with_reducible (first | refine nop_then ?_ | refine nop_block ?_ | exact nop_body)) hcl (fun _ => hx) ?_
          (refine rw_takeP 30 rfl rfl (by kernel_rfl) (by kernel_rfl) (by kernel_rfl) (by kernel_rfl) rfl (yo_on rfl rfl (yo_pure hT rfl)) ?_)
          (refine rw_takeP 31 rfl rfl (by kernel_rfl) (by kernel_rfl) (by kernel_rfl) (by kernel_rfl) rfl (yo_pure hT rfl) ?_; refine rw_takeP 32 rfl rfl (by kernel_rfl) (by kernel_rfl) (by kernel_rfl) (by kernel_rfl) rfl (yo_pure hT rfl) ?_)
          refine rw_done (by kernel_rfl) ?_
          (repeat (first | refine qw_then ?_ | refine cw_ret ?_))
          refine qw_ret rfl ⟨?_, hx⟩
          simp [oneOr, hr, h2, h3, h4]
        · (refine rw_takeP 18 rfl rfl (by kernel_rfl) (by kernel_rfl) (by kernel_rfl) (by kernel_rfl) rfl (yo_off rfl rfl) ?_; refine rw_takeP 20 rfl rfl (by kernel_rfl) (by kernel_rfl) (by kernel_rfl) (by kernel_rfl) rfl (yo_off rfl rfl) ?_; refine rw_takeP 21 rfl rfl (by kernel_rfl) (by kernel_rfl) (by kernel_rfl) (by kernel_rfl) rfl (yo_off rfl rfl) ?_; refine rw_takeP 22 rfl rfl (by kernel_rfl) (by kernel_rfl) (by kernel_rfl) (by kernel_rfl) rfl (yo_off rfl rfl) ?_; refine rw_takeP 23 rfl rfl (by kernel_rfl) (by kernel_rfl) (by kernel_rfl) (by kernel_rfl) rfl (yo_off rfl rfl) ?_; refine rw_takeP 24 rfl rfl (by kernel_rfl) (by kernel_rfl) (by kernel_rfl) (by kernel_rfl) rfl (yo_off rfl rfl) ?_; refine rw_takeP 25 rfl rfl (by kernel_rfl) (by kernel_rfl) (by kernel_rfl) (by kernel_rfl) rfl (yo_off rfl rfl) ?_; refine rw_takeP 26 rfl rfl (by kernel_rfl) (by kernel_rfl) (by kernel_rfl) (by kernel_rfl) rfl (yo_off rfl rfl) ?_; refine rw_takeP 27 rfl rfl (by kernel_rfl) (by kernel_rfl) (by kernel_rfl) (by kernel_rfl) rfl (yo_off rfl rfl) ?_; refine rw_takeP 28 rfl rfl (by kernel_rfl) (by kernel_rfl) (by kernel_rfl) (by kernel_rfl) rfl (yo_off rfl rfl) ?_; refine rw_takeP 29 rfl rfl (by kernel_rfl) (by kernel_rfl) (by kernel_rfl) (by kernel_rfl) rfl (yo_off rfl rfl) ?_; refine rw_takeP 19 rfl rfl (by kernel_rfl) (by kernel_rfl) (by kernel_rfl) (by kernel_rfl) rfl (yo_off rfl rfl) ?_; refine rw_takeP 30 rfl rfl (by kernel_rfl) (by kernel_rfl) (by kernel_rfl) (by kernel_rfl) rfl (yo_off rfl rfl) ?_)
          (refine rw_takeP 31 rfl rfl (by kernel_rfl) (by kernel_rfl) (by kernel_rfl) (by kernel_rfl) rfl (yo_pure hT rfl) ?_; refine rw_takeP 32 rfl rfl (by kernel_rfl) (by kernel_rfl) (by kernel_rfl) (by kernel_rfl) rfl (yo_pure hT rfl) ?_)
          refine rw_done (by kernel_rfl) ?_
          (repeat (first | refine qw_then ?_ | refine cw_ret ?_))
          refine qw_ret rfl ⟨?_, hx⟩
          simp [oneOr, hr, h4]
      · (refine rw_takeP 13 rfl rfl (by kernel_rfl) (by kernel_rfl) (by kernel_rfl) (by kernel_rfl) rfl (yo_off rfl rfl) ?_; refine rw_takeP 14 rfl rfl (by kernel_rfl) (by kernel_rfl) (by kernel_rfl) (by kernel_rfl) rfl (yo_off rfl rfl) ?_; refine rw_takeP 15 rfl rfl (by kernel_rfl) (by kernel_rfl) (by kernel_rfl) (by kernel_rfl) rfl (yo_off rfl rfl) ?_)
        (refine rw_takeP 16 rfl rfl (by kernel_rfl) (by kernel_rfl) (by kernel_rfl) (by kernel_rfl) rfl (yo_pure hT rfl) ?_; refine rw_takeP 17 rfl rfl (by kernel_rfl) (by kernel_rfl) (by kernel_rfl) (by kernel_rfl) rfl (yo_pure hT rfl) ?_)
        (refine rw_takeP 18 rfl rfl (by kernel_rfl) (by kernel_rfl) (by kernel_rfl) (by kernel_rfl) rfl (yo_off rfl rfl) ?_; refine rw_takeP 20 rfl rfl (by kernel_rfl) (by kernel_rfl) (by kernel_rfl) (by kernel_rfl) rfl (yo_off rfl rfl) ?_; refine rw_takeP 21 rfl rfl (by kernel_rfl) (by kernel_rfl) (by kernel_rfl) (by kernel_rfl) rfl (yo_off rfl rfl) ?_; refine rw_takeP 22 rfl rfl (by kernel_rfl) (by kernel_rfl) (by kernel_rfl) (by kernel_rfl) rfl (yo_off rfl rfl) ?_; refine rw_takeP 23 rfl rfl (by kernel_rfl) (by kernel_rfl) (by kernel_rfl) (by kernel_rfl) rfl (yo_off rfl rfl) ?_; refine rw_takeP 24 rfl rfl (by kernel_rfl) (by kernel_rfl) (by kernel_rfl) (by kernel_rfl) rfl (yo_off rfl rfl) ?_; refine rw_takeP 25 rfl rfl (by kernel_rfl) (by kernel_rfl) (by kernel_rfl) (by kernel_rfl) rfl (yo_off rfl rfl) ?_; refine rw_takeP 26 rfl rfl (by kernel_rfl) (by kernel_rfl) (by kernel_rfl) (by kernel_rfl) rfl (yo_off rfl rfl) ?_; refine rw_takeP 27 rfl rfl (by kernel_rfl) (by kernel_rfl) (by kernel_rfl) (by kernel_rfl) rfl (yo_off rfl rfl) ?_; refine rw_takeP 28 rfl rfl (by kernel_rfl) (by kernel_rfl) (by kernel_rfl) (by kernel_rfl) rfl (yo_off rfl rfl) ?_; refine rw_takeP 29 rfl rfl (by kernel_rfl) (by kernel_rfl) (by kernel_rfl) (by kernel_rfl) rfl (yo_off rfl rfl) ?_; refine rw_takeP 19 rfl rfl (by kernel_rfl) (by kernel_rfl) (by kernel_rfl) (by kernel_rfl) rfl (yo_off rfl rfl) ?_; refine rw_takeP 30 rfl rfl (by kernel_rfl) (by kernel_rfl) (by kernel_rfl) (by kernel_rfl) rfl (yo_off rfl rfl) ?_)
        (refine rw_takeP 31 rfl rfl (by kernel_rfl) (by kernel_rfl) (by kernel_rfl) (by kernel_rfl) rfl (yo_pure hT rfl) ?_; refine rw_takeP 32 rfl rfl (by kernel_rfl) (by kernel_rfl) (by kernel_rfl) (by kernel_rfl) rfl (yo_pure hT rfl) ?_)
        refine rw_done (by kernel_rfl) ?_
        (repeat (first | refine qw_then ?_ | refine cw_ret ?_))
        refine qw_ret rfl ⟨?_, hx⟩
        simp [oneOr, hr, h3]
    · (refine rw_takeP 8 rfl rfl (by kernel_rfl) (by kernel_rfl) (by kernel_rfl) (by kernel_rfl) rfl (yo_off rfl rfl) ?_; refine rw_takeP 9 rfl rfl (by kernel_rfl) (by kernel_rfl) (by kernel_rfl) (by kernel_rfl) rfl (yo_off rfl rfl) ?_; refine rw_takeP 10 rfl rfl (by kernel_rfl) (by kernel_rfl) (by kernel_rfl) (by kernel_rfl) rfl (yo_off rfl rfl) ?_)
      (refine rw_takeP 11 rfl rfl (by kernel_rfl) (by kernel_rfl) (by kernel_rfl) (by kernel_rfl) rfl (yo_pure hT rfl) ?_; refine rw_takeP 12 rfl rfl (by kernel_rfl) (by kernel_rfl) (by kernel_rfl) (by kernel_rfl) rfl (yo_pure hT rfl) ?_)
      (refine rw_takeP 13 rfl rfl (by kernel_rfl) (by kernel_rfl) (by kernel_rfl) (by kernel_rfl) rfl (yo_off rfl rfl) ?_; refine rw_takeP 14 rfl rfl (by kernel_rfl) (by kernel_rfl) (by kernel_rfl) (by kernel_rfl) rfl (yo_off rfl rfl) ?_; refine rw_takeP 15 rfl rfl (by kernel_rfl) (by kernel_rfl) (by kernel_rfl) (by kernel_rfl) rfl (yo_off rfl rfl) ?_)
      (refine rw_takeP 16 rfl rfl (by kernel_rfl) (by kernel_rfl) (by kernel_rfl) (by kernel_rfl) rfl (yo_pure hT rfl) ?_; refine rw_takeP 17 rfl rfl (by kernel_rfl) (by kernel_rfl) (by kernel_rfl) (by kernel_rfl) rfl (yo_pure hT rfl) ?_)
      (refine rw_takeP 18 rfl rfl (by kernel_rfl) (by kernel_rfl) (by kernel_rfl) (by kernel_rfl) rfl (yo_off rfl rfl) ?_; refine rw_takeP 20 rfl rfl (by kernel_rfl) (by kernel_rfl) (by kernel_rfl) (by kernel_rfl) rfl (yo_off rfl rfl) ?_; refine rw_takeP 21 rfl rfl (by kernel_rfl) (by kernel_rfl) (by kernel_rfl) (by kernel_rfl) rfl (yo_off rfl rfl) ?_; refine rw_takeP 22 rfl rfl (by kernel_rfl) (by kernel_rfl) (by kernel_rfl) (by kernel_rfl) rfl (yo_off rfl rfl) ?_; refine rw_takeP 23 rfl rfl (by kernel_rfl) (by kernel_rfl) (by kernel_rfl) (by kernel_rfl) rfl (yo_off rfl rfl) ?_; refine rw_takeP 24 rfl rfl (by kernel_rfl) (by kernel_rfl) (by kernel_rfl) (by kernel_rfl) rfl (yo_off rfl rfl) ?_; refine rw_takeP 25 rfl rfl (by kernel_rfl) (by kernel_rfl) (by kernel_rfl) (by kernel_rfl) rfl (yo_off rfl rfl) ?_; refine rw_takeP 26 rfl rfl (by kernel_rfl) (by kernel_rfl) (by kernel_rfl) (by kernel_rfl) rfl (yo_off rfl rfl) ?_; refine rw_takeP 27 rfl rfl (by kernel_rfl) (by kernel_rfl) (by kernel_rfl) (by kernel_rfl) rfl (yo_off rfl rfl) ?_; refine rw_takeP 28 rfl rfl (by kernel_rfl) (by kernel_rfl) (by kernel_rfl) (by kernel_rfl) rfl (yo_off rfl rfl) ?_; refine rw_takeP 29 rfl rfl (by kernel_rfl) (by kernel_rfl) (by kernel_rfl) (by kernel_rfl) rfl (yo_off rfl rfl) ?_; refine rw_takeP 19 rfl rfl (by kernel_rfl) (by kernel_rfl) (by kernel_rfl) (by kernel_rfl) rfl (yo_off rfl rfl) ?_; refine rw_takeP 30 rfl rfl (by kernel_rfl) (by kernel_rfl) (by kernel_rfl) (by kernel_rfl) rfl (yo_off rfl rfl) ?_)
      (refine rw_takeP 31 rfl rfl (by kernel_rfl) (by kernel_rfl) (by kernel_rfl) (by kernel_rfl) rfl (yo_pure hT rfl) ?_; refine rw_takeP 32 rfl rfl (by kernel_rfl) (by kernel_rfl) (by kernel_rfl) (by kernel_rfl) rfl (yo_pure hT rfl) ?_)
      refine rw_done (by kernel_rfl) ?_
      (repeat (first | refine qw_then ?_ | refine cw_ret ?_))
      refine qw_ret rfl ⟨?_, hx⟩
      simp [oneOr, hr, h2]
  · have h1 : s.size ≠ 12 := by simp at h1; omega
    (refine rw_takeP 4 rfl rfl (by kernel_rfl) (by kernel_rfl) (by kernel_rfl) (by kernel_rfl) rfl (yo_off rfl rfl) ?_; refine rw_takeP 5 rfl rfl (by kernel_rfl) (by kernel_rfl) (by kernel_rfl) (by kernel_rfl) rfl (yo_off rfl rfl) ?_)
    (refine rw_takeP 6 rfl rfl (by kernel_rfl) (by kernel_rfl) (by kernel_rfl) (by kernel_rfl) rfl (yo_pure hT rfl) ?_; refine rw_takeP 7 rfl rfl (by kernel_rfl) (by kernel_rfl) (by kernel_rfl) (by kernel_rfl) rfl (yo_pure hT rfl) ?_)
    (refine rw_takeP 8 rfl rfl (by kernel_rfl) (by kernel_rfl) (by kernel_rfl) (by kernel_rfl) rfl (yo_off rfl rfl) ?_; refine rw_takeP 9 rfl rfl (by kernel_rfl) (by kernel_rfl) (by kernel_rfl) (by kernel_rfl) rfl (yo_off rfl rfl) ?_; refine rw_takeP 10 rfl rfl (by kernel_rfl) (by kernel_rfl) (by kernel_rfl) (by kernel_rfl) rfl (yo_off rfl rfl) ?_)
    (refine rw_takeP 11 rfl rfl (by kernel_rfl) (by kernel_rfl) (by kernel_rfl) (by kernel_rfl) rfl (yo_pure hT rfl) ?_; refine rw_takeP 12 rfl rfl (by kernel_rfl) (by kernel_rfl) (by kernel_rfl) (by kernel_rfl) rfl (yo_pure hT rfl) ?_)
    (refine rw_takeP 13 rfl rfl (by kernel_rfl) (by kernel_rfl) (by kernel_rfl) (by kernel_rfl) rfl (yo_off rfl rfl) ?_; refine rw_takeP 14 rfl rfl (by kernel_rfl) (by kernel_rfl) (by kernel_rfl) (by kernel_rfl) rfl (yo_off rfl rfl) ?_; refine rw_takeP 15 rfl rfl (by kernel_rfl) (by kernel_rfl) (by kernel_rfl) (by kernel_rfl) rfl (yo_off rfl rfl) ?_)
    (refine rw_takeP 16 rfl rfl (by kernel_rfl) (by kernel_rfl) (by kernel_rfl) (by kernel_rfl) rfl (yo_pure hT rfl) ?_; refine rw_takeP 17 rfl rfl (by kernel_rfl) (by kernel_rfl) (by kernel_rfl) (by kernel_rfl) rfl (yo_pure hT rfl) ?_)
    (refine rw_takeP 18 rfl rfl (by kernel_rfl) (by kernel_rfl) (by kernel_rfl) (by kernel_rfl) rfl (yo_off rfl rfl) ?_; refine rw_takeP 20 rfl rfl (by kernel_rfl) (by kernel_rfl) (by kernel_rfl) (by kernel_rfl) rfl (yo_off rfl rfl) ?_; refine rw_takeP 21 rfl rfl (by kernel_rfl) (by kernel_rfl) (by kernel_rfl) (by kernel_rfl) rfl (yo_off rfl rfl) ?_; refine rw_takeP 22 rfl rfl (by kernel_rfl) (by kernel_rfl) (by kernel_rfl) (by kernel_rfl) rfl (yo_off rfl rfl) ?_; refine rw_takeP 23 rfl rfl (by kernel_rfl) (by kernel_rfl) (by kernel_rfl) (by kernel_rfl) rfl (yo_off rfl rfl) ?_; refine rw_takeP 24 rfl rfl (by kernel_rfl) (by kernel_rfl) (by kernel_rfl) (by kernel_rfl) rfl (yo_off rfl rfl) ?_; refine rw_takeP 25 rfl rfl (by kernel_rfl) (by kernel_rfl) (by kernel_rfl) (by kernel_rfl) rfl (yo_off rfl rfl) ?_; refine rw_takeP 26 rfl rfl (by kernel_rfl) (by kernel_rfl) (by kernel_rfl) (by kernel_rfl) rfl (yo_off rfl rfl) ?_; refine rw_takeP 27 rfl rfl (by kernel_rfl) (by kernel_rfl) (by kernel_rfl) (by kernel_rfl) rfl (yo_off rfl rfl) ?_; refine rw_takeP 28 rfl rfl (by kernel_rfl) (by kernel_rfl) (by kernel_rfl) (by kernel_rfl) rfl (yo_off rfl rfl) ?_; refine rw_takeP 29 rfl rfl (by kernel_rfl) (by kernel_rfl) (by kernel_rfl) (by kernel_rfl) rfl (yo_off rfl rfl) ?_; refine rw_takeP 19 rfl rfl (by kernel_rfl) (by kernel_rfl) (by kernel_rfl) (by kernel_rfl) rfl (yo_off rfl rfl) ?_; refine rw_takeP 30 rfl rfl (by kernel_rfl) (by kernel_rfl) (by kernel_rfl) (by kernel_rfl) rfl (yo_off rfl rfl) ?_)
    (refine rw_takeP 31 rfl rfl (by kernel_rfl) (by kernel_rfl) (by kernel_rfl) (by kernel_rfl) rfl (yo_pure hT rfl) ?_; refine rw_takeP 32 rfl rfl (by kernel_rfl) (by kernel_rfl) (by kernel_rfl) (by kernel_rfl) rfl (yo_pure hT rfl) ?_)
    refine rw_done (by kernel_rfl) ?_
    (repeat (first | refine qw_then ?_ | refine cw_ret ?_))
    refine qw_ret rfl ⟨?_, hx⟩
    simp [oneOr, rightB, h1]
end Go.Proofs.YtnglkhnfmbnfeaaGreat
namespace Go.Proofs.YtnglkhnfmbnfeaaGreat
open Go Go.SK
def fidx {α : Type} (p : α → Bool) (l : List α) : Int := match l.findIdx? p with
  | some i => i
  | none => -1
theorem fidx_ge {α : Type} (p : α → Bool) (l : List α) : decide (fidx p l ≥ 0) = l.any p := by
  unfold fidx
  cases h : l.findIdx? p with
  | none =>
    have := List.findIdx?_eq_none_iff.1 h
    have e : l.any p = false := by rw [List.any_eq_false]; intro x hx; simp [this x hx]
    rw [e]; rfl
  | some i =>
    obtain ⟨hi, hp, _⟩ := List.findIdx?_eq_some_iff_getElem.1 h
    have e : l.any p = true := List.any_eq_true.2 ⟨_, List.getElem_mem hi, hp⟩
    rw [e]; simp
theorem fidx_at {α : Type} {p : α → Bool} {l : List α} {i : Nat} (hi : i < l.length) (hp : p l[i] = true) (hb : ∀ j (hj : j < i), p (l[j]'(by omega)) = false) : fidx p l = i := by
  unfold fidx
  rw [List.findIdx?_eq_some_iff_getElem.2 ⟨hi, hp, fun j hj => by simp [hb j hj]⟩]
theorem fidx_none {α : Type} {p : α → Bool} {l : List α} (hb : ∀ j (hj : j < l.length), p l[j] = false) : fidx p l = -1 := by
  unfold fidx
  rw [List.findIdx?_eq_none_iff.2 fun x hx => by obtain ⟨j, hj, rfl⟩ := List.mem_iff_getElem.1 hx; exact hb j hj]
abbrev SlS (A : Nat → Prop) (w : World) (v : Value) (l : List ByteArray) : Prop := Sl A w v 1 (l.map fun s => [Value.string s])
theorem idxf_str {α : Type} (row : α → List Value) (ev : α → Value) (hev : ∀ x, row x = [ev x]) {A : Nat → Prop} {v : Value} {l : List α} (p : α → Bool) {f : Nat} {fi cp : List Value} (w : World) (hS : Sl A w v 1 (l.map row)) (hf : memN T.fns f = true)
    (hcl : ∀ x ∈ l, ∀ w', Ex w w' → Ret Tryz.prog f (fi ++ [ev x] ++ cp) w' fun u w'' => u = .bool (p x) ∧ Ex w' w'') :
    Ret Tryz.prog 86 [v, .func (.func f) ⟨fi⟩ ⟨cp⟩] w fun u w' => u = .int .i64 (fidx p l) ∧ Ex w w' := by
  have hm := hS.small
  obtain ⟨a, cap, rfl, hz, hr⟩ := hS.is
  simp only [List.length_map] at *
  unfold maxLen at hm
  refine ret_of Tryz.func86 Tryz.ntmps86 rfl rfl rfl ?_
  (repeat (first | refine lw_pure hT rfl ?_ | refine lw_nil ?_ | refine cw_seq ?_ | refine cw_region ?_ | refine qw_then ?_ | refine cw_block ?_))
  refine cw_loop (fun i : Nat => [(0, .slice a l.length cap), (1, .func (.func f) ⟨fi⟩ ⟨cp⟩), (7, .int .i64 (l.length : Nat)), (8, .int .i64 (i : Nat))]) (fun i w' => Ex w w' ∧ i ≤ l.length ∧ ∀ j (hj : j < l.length), j < i → p l[j] = false) (fun i => l.length - i) 0 (by repeat (first | exact trivial | refine ⟨rfl, ?_⟩)) ⟨Ext.refl _ _, Nat.zero_le _, fun j _ hj => by omega⟩ ?_
  rintro i w' ⟨hx, hi, hb⟩
  (repeat (first | refine lw_pure hT rfl ?_ | refine lw_nil ?_ | refine cw_seq ?_ | refine cw_region ?_ | refine qw_then ?_))
  refine cw_cond rfl (fun h => ?_) (fun h => ?_)
  · have hlt : i < l.length := by simpa using h
    have hne : l.map row ≠ [] := by intro e; simp at e; subst e; simp at hlt
    obtain ⟨b, o, rfl, hA, hrd⟩ := hr hne
    obtain ⟨hlen, hrd⟩ := hrd i (row l[i]) (by simp [hlt])
    (repeat (first | refine lw_pure hT rfl ?_ | refine lw_nil ?_ | refine cw_seq ?_ | refine cw_region ?_ | refine qw_then ?_ | refine cw_skip ?_ | refine cw_block ?_))
    refine lw_index hT rfl rfl rfl i rfl hlt ?_
    skip
    refine lw_load hT rfl rfl (v := ev l[i]) (hx.cell (hrd 0 _ (by rw [hev]; rfl))) ?_
    skip
    refine lw_call_fn hT rfl hf rfl (hcl l[i] (List.getElem_mem hlt) w' hx) ?_
    rintro _ w2 ⟨rfl, hx2⟩
    (repeat (first | refine lw_nil ?_ | refine qw_then ?_))
    refine cw_cond rfl (fun h => ?_) (fun h => ?_)
    · (repeat (first | refine lw_pure hT rfl ?_ | refine lw_nil ?_ | refine cw_seq ?_ | refine cw_region ?_ | refine qw_then ?_ | refine cw_ret ?_ | refine qw_then_ret ?_ | refine qw_block_ret ?_))
      exact qw_ret rfl ⟨by rw [fidx_at hlt h fun j hj => hb j (by omega) hj]; rfl, hx.trans hx2⟩
    · (repeat (first | (refine lw_add rfl rfl ?_ ?_ ?_; iterate 2 omega) | refine lw_pure hT rfl ?_ | refine lw_nil ?_ | refine cw_region ?_ | refine qw_then ?_ | refine cw_skip ?_ | refine qw_block ?_))
      refine qw_round (i + 1) (by repeat (first | exact trivial | refine ⟨rfl, ?_⟩)) ⟨hx.trans hx2, hlt, fun j hj hji => ?_⟩ (by omega)
      by_cases e : j = i
      · subst e; exact h
      · exact hb j hj (by omega)
  · have : i = l.length := by simp at h; omega
    subst this
    (repeat (first | refine lw_pure hT rfl ?_ | refine lw_nil ?_ | refine cw_seq ?_ | refine cw_region ?_ | refine qw_then ?_ | refine cw_ret ?_ | refine cw_exit ?_ | refine qw_block_exit ?_ | refine qw_then_exit ?_))
    exact qw_ret rfl ⟨by rw [fidx_none fun j hj => hb j hj hj]; rfl, hx⟩
theorem cnf_str {α : Type} (row : α → List Value) (ev : α → Value) (hev : ∀ x, row x = [ev x]) {A : Nat → Prop} {v : Value} {l : List α} (p : α → Bool) {f : Nat} {fi cp : List Value} (w : World) (hS : Sl A w v 1 (l.map row)) (hf : memN T.fns f = true)
    (hcl : ∀ x ∈ l, ∀ w', Ex w w' → Ret Tryz.prog f (fi ++ [ev x] ++ cp) w' fun u w'' => u = .bool (p x) ∧ Ex w' w'') :
    Ret Tryz.prog 40 [v, .func (.func f) ⟨fi⟩ ⟨cp⟩] w fun u w' => u = .bool (l.any p) ∧ Ex w w' := by
  refine ret_of Tryz.func40 Tryz.ntmps40 rfl rfl rfl ?_
  (repeat (first | refine lw_pure hT rfl ?_ | refine lw_nil ?_ | refine cw_seq ?_ | refine cw_region ?_ | refine qw_then ?_))
  refine lw_call hT rfl rfl (idxf_str row ev hev p w hS hf hcl) ?_
  rintro _ w' ⟨rfl, hx⟩
  (repeat (first | refine lw_pure hT rfl ?_ | refine lw_nil ?_ | refine qw_then ?_ | refine cw_ret ?_))
  exact qw_ret rfl ⟨by rw [fidx_ge]; rfl, hx⟩
theorem idxf_ptr {α : Type} (row : α → List Value) (ev : α → Value) (hev : ∀ x, row x = [ev x]) {A : Nat → Prop} {v : Value} {l : List α} (p : α → Bool) {f : Nat} {fi cp : List Value} (w : World) (hS : Sl A w v 1 (l.map row)) (hf : memN T.fns f = true)
    (hcl : ∀ x ∈ l, ∀ w', Ex w w' → Ret Tryz.prog f (fi ++ [ev x] ++ cp) w' fun u w'' => u = .bool (p x) ∧ Ex w' w'') :
    Ret Tryz.prog 141 [v, .func (.func f) ⟨fi⟩ ⟨cp⟩] w fun u w' => u = .int .i64 (fidx p l) ∧ Ex w w' := by
  have hm := hS.small
  obtain ⟨a, cap, rfl, hz, hr⟩ := hS.is
  simp only [List.length_map] at *
  unfold maxLen at hm
  refine ret_of Tryz.func141 Tryz.ntmps141 rfl rfl rfl ?_
  (repeat (first | refine lw_pure hT rfl ?_ | refine lw_nil ?_ | refine cw_seq ?_ | refine cw_region ?_ | refine qw_then ?_ | refine cw_block ?_))
  refine cw_loop (fun i : Nat => [(0, .slice a l.length cap), (1, .func (.func f) ⟨fi⟩ ⟨cp⟩), (7, .int .i64 (l.length : Nat)), (8, .int .i64 (i : Nat))]) (fun i w' => Ex w w' ∧ i ≤ l.length ∧ ∀ j (hj : j < l.length), j < i → p l[j] = false) (fun i => l.length - i) 0 (by repeat (first | exact trivial | refine ⟨rfl, ?_⟩)) ⟨Ext.refl _ _, Nat.zero_le _, fun j _ hj => by omega⟩ ?_
  rintro i w' ⟨hx, hi, hb⟩
  (repeat (first | refine lw_pure hT rfl ?_ | refine lw_nil ?_ | refine cw_seq ?_ | refine cw_region ?_ | refine qw_then ?_))
  refine cw_cond rfl (fun h => ?_) (fun h => ?_)
  · have hlt : i < l.length := by simpa using h
    have hne : l.map row ≠ [] := by intro e; simp at e; subst e; simp at hlt
    obtain ⟨b, o, rfl, hA, hrd⟩ := hr hne
    obtain ⟨hlen, hrd⟩ := hrd i (row l[i]) (by simp [hlt])
    (repeat (first | refine lw_pure hT rfl ?_ | refine lw_nil ?_ | refine cw_seq ?_ | refine cw_region ?_ | refine qw_then ?_ | refine cw_skip ?_ | refine cw_block ?_))
    refine lw_index hT rfl rfl rfl i rfl hlt ?_
    skip
    refine lw_load hT rfl rfl (v := ev l[i]) (hx.cell (hrd 0 _ (by rw [hev]; rfl))) ?_
    skip
    refine lw_call_fn hT rfl hf rfl (hcl l[i] (List.getElem_mem hlt) w' hx) ?_
    rintro _ w2 ⟨rfl, hx2⟩
    (repeat (first | refine lw_nil ?_ | refine qw_then ?_))
    refine cw_cond rfl (fun h => ?_) (fun h => ?_)
    · (repeat (first | refine lw_pure hT rfl ?_ | refine lw_nil ?_ | refine cw_seq ?_ | refine cw_region ?_ | refine qw_then ?_ | refine cw_ret ?_ | refine qw_then_ret ?_ | refine qw_block_ret ?_))
      exact qw_ret rfl ⟨by rw [fidx_at hlt h fun j hj => hb j (by omega) hj]; rfl, hx.trans hx2⟩
    · (repeat (first | (refine lw_add rfl rfl ?_ ?_ ?_; iterate 2 omega) | refine lw_pure hT rfl ?_ | refine lw_nil ?_ | refine cw_region ?_ | refine qw_then ?_ | refine cw_skip ?_ | refine qw_block ?_))
      refine qw_round (i + 1) (by repeat (first | exact trivial | refine ⟨rfl, ?_⟩)) ⟨hx.trans hx2, hlt, fun j hj hji => ?_⟩ (by omega)
      by_cases e : j = i
      · subst e; exact h
      · exact hb j hj (by omega)
  · have : i = l.length := by simp at h; omega
    subst this
    (repeat (first | refine lw_pure hT rfl ?_ | refine lw_nil ?_ | refine cw_seq ?_ | refine cw_region ?_ | refine qw_then ?_ | refine cw_ret ?_ | refine cw_exit ?_ | refine qw_block_exit ?_ | refine qw_then_exit ?_))
    exact qw_ret rfl ⟨by rw [fidx_none fun j hj => hb j hj hj]; rfl, hx⟩
theorem cnf_ptr {α : Type} (row : α → List Value) (ev : α → Value) (hev : ∀ x, row x = [ev x]) {A : Nat → Prop} {v : Value} {l : List α} (p : α → Bool) {f : Nat} {fi cp : List Value} (w : World) (hS : Sl A w v 1 (l.map row)) (hf : memN T.fns f = true)
    (hcl : ∀ x ∈ l, ∀ w', Ex w w' → Ret Tryz.prog f (fi ++ [ev x] ++ cp) w' fun u w'' => u = .bool (p x) ∧ Ex w' w'') :
    Ret Tryz.prog 111 [v, .func (.func f) ⟨fi⟩ ⟨cp⟩] w fun u w' => u = .bool (l.any p) ∧ Ex w w' := by
  refine ret_of Tryz.func111 Tryz.ntmps111 rfl rfl rfl ?_
  (repeat (first | refine lw_pure hT rfl ?_ | refine lw_nil ?_ | refine cw_seq ?_ | refine cw_region ?_ | refine qw_then ?_))
  refine lw_call hT rfl rfl (idxf_ptr row ev hev p w hS hf hcl) ?_
  rintro _ w' ⟨rfl, hx⟩
  (repeat (first | refine lw_pure hT rfl ?_ | refine lw_nil ?_ | refine qw_then ?_ | refine cw_ret ?_))
  exact qw_ret rfl ⟨by rw [fidx_ge]; rfl, hx⟩
theorem idx_str {A : Nat → Prop} {v : Value} {l : List ByteArray} (x : ByteArray) (w : World) (hS : SlS A w v l) :
    Ret Tryz.prog 140 [v, .string x] w fun u w' => u = .int .i64 (fidx (fun s => decide (x = s)) l) ∧ w = w' := by
  have hm := hS.small
  obtain ⟨a, cap, rfl, hz, hr⟩ := hS.is
  simp only [List.length_map] at *
  unfold maxLen at hm
  refine ret_of Tryz.func140 Tryz.ntmps140 rfl rfl rfl ?_
  (repeat (first | refine lw_pure hT rfl ?_ | refine lw_nil ?_ | refine cw_seq ?_ | refine cw_region ?_ | refine qw_then ?_ | refine cw_block ?_))
  refine cw_loop (fun i : Nat => [(0, .slice a l.length cap), (1, .string x), (7, .int .i64 (l.length : Nat)), (8, .int .i64 (i : Nat))]) (fun i w' => w = w' ∧ i ≤ l.length ∧ ∀ j (hj : j < l.length), j < i → decide (x = l[j]) = false) (fun i => l.length - i) 0 (by repeat (first | exact trivial | refine ⟨rfl, ?_⟩)) ⟨rfl, Nat.zero_le _, fun j _ hj => by omega⟩ ?_
  rintro i _ ⟨rfl, hi, hb⟩
  (repeat (first | refine lw_pure hT rfl ?_ | refine lw_nil ?_ | refine cw_seq ?_ | refine cw_region ?_ | refine qw_then ?_))
  refine cw_cond rfl (fun h => ?_) (fun h => ?_)
  · have hlt : i < l.length := by simpa using h
    have hne : l.map (fun s => [Value.string s]) ≠ [] := by intro e; simp at e; subst e; simp at hlt
    obtain ⟨b, o, rfl, hA, hrd⟩ := hr hne
    obtain ⟨hlen, hrd⟩ := hrd i [.string l[i]] (by simp [hlt])
    (repeat (first | refine lw_pure hT rfl ?_ | refine lw_nil ?_ | refine cw_seq ?_ | refine cw_region ?_ | refine qw_then ?_ | refine cw_skip ?_ | refine cw_block ?_))
    refine lw_index hT rfl rfl rfl i rfl hlt ?_
    skip
    refine lw_load hT rfl rfl (v := .string l[i]) (hrd 0 _ rfl) ?_
    (repeat (first | refine lw_pure hT rfl ?_ | refine lw_nil ?_ | refine qw_then ?_))
    refine cw_cond rfl (fun h => ?_) (fun h => ?_)
    · (repeat (first | refine lw_pure hT rfl ?_ | refine lw_nil ?_ | refine cw_seq ?_ | refine cw_region ?_ | refine qw_then ?_ | refine cw_ret ?_ | refine qw_then_ret ?_ | refine qw_block_ret ?_))
      exact qw_ret rfl ⟨by rw [fidx_at hlt (by simpa [eq_comm] using h) fun j hj => hb j (by omega) hj]; rfl, rfl⟩
    · (repeat (first | (refine lw_add rfl rfl ?_ ?_ ?_; iterate 2 omega) | refine lw_pure hT rfl ?_ | refine lw_nil ?_ | refine cw_region ?_ | refine qw_then ?_ | refine cw_skip ?_ | refine qw_block ?_))
      refine qw_round (i + 1) (by repeat (first | exact trivial | refine ⟨rfl, ?_⟩)) ⟨rfl, hlt, fun j hj hji => ?_⟩ (by omega)
      by_cases e : j = i
      · subst e; simpa [eq_comm] using h
      · exact hb j hj (by omega)
  · have : i = l.length := by simp at h; omega
    subst this
    (repeat (first | refine lw_pure hT rfl ?_ | refine lw_nil ?_ | refine cw_seq ?_ | refine cw_region ?_ | refine qw_then ?_ | refine cw_ret ?_ | refine cw_exit ?_ | refine qw_block_exit ?_ | refine qw_then_exit ?_))
    exact qw_ret rfl ⟨by rw [fidx_none fun j hj => hb j hj hj]; rfl, rfl⟩
theorem cnt_str {A : Nat → Prop} {v : Value} {l : List ByteArray} (x : ByteArray) (w : World) (hS : SlS A w v l) :
    Ret Tryz.prog 103 [v, .string x] w fun u w' => u = .bool (l.any fun s => decide (x = s)) ∧ w = w' := by
  refine ret_of Tryz.func103 Tryz.ntmps103 rfl rfl rfl ?_
  (repeat (first | refine lw_pure hT rfl ?_ | refine lw_nil ?_ | refine cw_seq ?_ | refine cw_region ?_ | refine qw_then ?_))
  refine lw_call hT rfl rfl (idx_str x w hS) ?_
  rintro _ w' ⟨rfl, rfl⟩
  (repeat (first | refine lw_pure hT rfl ?_ | refine lw_nil ?_ | refine qw_then ?_ | refine cw_ret ?_))
  exact qw_ret rfl ⟨by rw [fidx_ge]; rfl, rfl⟩
theorem clone_str {A : Nat → Prop} {v : Value} {l : List ByteArray} (w : World) (hS : SlS A w v l) (hb : l.length ≤ 1000000) :
    Ret Tryz.prog 46 [v] w fun u w' => w'.ownsRow w.heap.size 9 1 u l.length (l.map Value.string) ∧ Ex w w' := by
  have hS' := hS
  obtain ⟨a, cap, rfl, hz, hr⟩ := hS.is
  simp only [List.length_map] at *
  refine ret_of Tryz.func46 Tryz.ntmps46 rfl rfl rfl ?_
  cases a with
  | none =>
    have h0 : l = [] := by
      by_cases h : l = []
      · exact h
      · obtain ⟨b, o, ha, _⟩ := hr (by simpa using h); cases ha
    subst h0
    (repeat (first | refine lw_pure hT rfl ?_ | refine lw_nil ?_ | refine cw_seq ?_ | refine cw_region ?_ | refine qw_then ?_ | refine cw_ret ?_ | refine qw_then_ret ?_ | (refine cw_cond_t rfl ?_ ?_; focus with_reducible (first | rfl | exact Bool.not_false | exact Bool.not_true)) | refine lw_eqs_none hT rfl rfl ?_))
    exact qw_ret rfl ⟨World.ownsRow_nil _ _ _ _, Ext.refl _ _⟩
  | some ad =>
    (repeat (first | refine lw_pure hT rfl ?_ | refine lw_nil ?_ | refine cw_seq ?_ | refine cw_region ?_ | refine qw_then ?_ | refine cw_skip ?_ | (refine cw_cond_f rfl ?_ ?_; focus with_reducible (first | rfl | exact Bool.not_false | exact Bool.not_true)) | refine lw_eqs_some hT rfl rfl ?_))
    refine lw_buildSlice sl31 rfl rfl rfl ?_
    rintro b w1 rfl hb1 hx1 hs1
    (repeat (refine lw_pure hT rfl ?_))
    have hown : w1.ownsRow w.heap.size 9 1 (.slice (some ⟨w.heap.size, 0, none⟩) 0 0) 0 [] := own_lit hb1 (Nat.le_refl _) rfl (by decide)
    refine lw_append_sl sl31 (by decide) rfl hown rfl (hS'.ex hx1) (by simp [Value.oneCell']) (by simp [maxLen]; omega) (by simp; omega) (by omega) ?_
    intro v' w2 g1 g2 g3 g4
    (repeat (first | refine lw_pure hT rfl ?_ | refine lw_nil ?_ | refine qw_then ?_ | refine cw_ret ?_))
    refine qw_ret rfl ⟨?_, ?_⟩
    · have e : (l.map fun s => [Value.string s]).flatten = l.map Value.string := by
        clear g1 hS hS' hr hb hown
        induction l with
        | nil => rfl
        | cons a l ih => simp [ih]
      rw [e] at g1
      simpa [oneOr] using g1
    · exact hx1.trans' g2 (fun _ _ f => f.elim) (fun i hi g => by simp [Value.ownBlock] at g; omega)
end Go.Proofs.YtnglkhnfmbnfeaaGreat
namespace Go.Proofs.YtnglkhnfmbnfeaaGreat
open Go Go.SK
structure BillD where
  number : ByteArray
  carrier : ByteArray
  shipper : ByteArray
  frm : ByteArray
  to_ : ByteArray
  boxes : List ByteArray
  parents : List ByteArray
  issued : Int
  clean : Bool
structure EndD where
  frm : ByteArray
  to_ : ByteArray
  kind : Int
  day : Int
structure PapD where
  state : Int
  holder : ByteArray
  chain : List EndD
structure EntD where
  bill : BillD
  state : Int
  ps : List PapD
structure RegD where
  carrier : ByteArray
  l : List EntD
structure ActD where
  kind : Int
  index : Int
  day : Int
  bill : ByteArray
  by_ : ByteArray
  to_ : ByteArray
  b : BillD
instance : Inhabited PapD := ⟨⟨0, ⟨#[]⟩, []⟩⟩
def dayB (n : Int) : Bool := decide (0 ≤ n) && decide (n ≤ 1048576)
def onceB : List ByteArray → Bool
  | [] => true
  | x :: l => !(l.any fun y => decide (x = y)) && onceB l
def mayB (c : ByteArray) (b : BillD) : Bool :=
  (nameB b.number && nameB b.shipper && nameB b.frm && nameB b.to_) && (decide (b.carrier = c) && ((b.boxes.all rightB && onceB b.boxes && (decide (1 ≤ b.boxes.length) && decide (b.boxes.length ≤ 64))) &&
    (decide (b.parents.length ≤ 64) && (b.parents.all nameB && dayB b.issued))))
def EntD.has (e : EntD) (x : ByteArray) : Bool := decide (e.state = 0) && e.bill.boxes.any fun y => decide (x = y)
def RegD.at? (r : RegD) (n : ByteArray) : Option EntD := r.l.find? fun e => decide (n = e.bill.number)
def RegD.boxed (r : RegD) (x : ByteArray) : Bool := r.l.any fun e => e.has x
def newEnt (b : BillD) (holder : ByteArray) : EntD := ⟨b, 0, [⟨0, holder, []⟩, ⟨0, holder, []⟩, ⟨0, holder, []⟩]⟩
def issueC (r : RegD) (b : BillD) (holder : ByteArray) : Int :=
  if !mayB r.carrier b || !nameB holder then 1
  else if (r.at? b.number).isSome then 5
  else if b.boxes.any r.boxed then 9
  else if r.l.length = 256 then 7 else 0
def issueD (r : RegD) (b : BillD) (holder : ByteArray) : RegD := if issueC r b holder = 0 then { r with l := r.l ++ [newEnt b holder] } else r
structure AskD where
  bill : ByteArray
  by_ : ByteArray
  index : Int
  state : Int
  dated : Bool
  day : Int
  to_ : ByteArray
  given : Bool
def ixs (index : Int) : List Nat := if index = -1 then [0, 1, 2] else if index = 0 then [0] else if index = 1 then [1] else if index = 2 then [2] else []
def untilD (b : BillD) (p : PapD) : Int := match p.chain.getLast? with
  | some x => x.day
  | none => b.issued
def askE (e : EntD) (a : AskD) : Int :=
  let l := (ixs a.index).map fun i => e.ps.getD i default
  if l.length = 0 then 3
  else if (a.dated && !dayB a.day) || (a.given && (!nameB a.to_ || decide (a.to_ = a.by_))) then 1
  else if decide (e.state ≠ 0) || l.any (fun p => decide (p.state ≠ a.state)) then 9
  else if l.any (fun p => decide (p.holder ≠ a.by_)) then 8
  else if a.dated && l.any (fun p => decide (a.day < untilD e.bill p)) then 6
  else 0
def askC (r : RegD) (a : AskD) : Int := match r.at? a.bill with
  | none => 4
  | some e => askE e a
def oneI (i : Int) : Int := if i = -1 then 3 else i
def ActD.ask (a : ActD) : AskD :=
  if a.kind = 1 then ⟨a.bill, a.by_, a.index, 0, true, a.day, a.to_, true⟩
  else if a.kind = 2 then ⟨a.bill, a.by_, oneI a.index, 0, true, a.day, ⟨#[]⟩, false⟩
  else if a.kind = 3 then ⟨a.bill, a.by_, oneI a.index, 0, false, 0, ⟨#[]⟩, false⟩
  else if a.kind = 4 then ⟨a.bill, a.by_, oneI a.index, 3, true, a.day, ⟨#[]⟩, false⟩
  else ⟨a.bill, a.by_, -1, 0, true, a.day, ⟨#[]⟩, false⟩
def onIx (l : List Nat) (f : PapD → PapD) (ps : List PapD) : List PapD := ps.zipIdx.map fun (p, i) => if l.contains i then f p else p
def endorseP (by_ to_ : ByteArray) (day : Int) (p : PapD) : PapD := { p with holder := to_, chain := p.chain ++ [⟨by_, to_, 0, day⟩] }
def stateP (s : Int) (p : PapD) : PapD := { p with state := s }
def EntD.after (e : EntD) (a : ActD) : EntD :=
  if a.kind = 1 then { e with ps := onIx (ixs a.index) (endorseP a.by_ a.to_ a.day) e.ps }
  else if a.kind = 2 then { e with state := 1, ps := onIx (ixs a.index) (stateP 1) (e.ps.map (stateP 2)) }
  else if a.kind = 3 then { e with ps := onIx (ixs a.index) (stateP 3) e.ps }
  else if a.kind = 4 then { e with ps := onIx (ixs a.index) (stateP 0) e.ps }
  else { e with state := 4, ps := e.ps.map (stateP 2) }
def RegD.upd (r : RegD) (n : ByteArray) (f : EntD → EntD) : RegD := { r with l := r.l.map fun e => if n = e.bill.number then f e else e }
def actC (r : RegD) (a : ActD) : Int := if a.kind = 0 then issueC r a.b a.to_ else askC r a.ask
def doA (r : RegD) (a : ActD) : RegD :=
  if a.kind = 0 then issueD r a.b a.to_
  else if askC r a.ask = 0 then r.upd a.bill (·.after a) else r
def encE (x : EndD) : List Value := [.string x.frm, .string x.to_, .int .i64 x.kind, .int .i64 x.day]
def encB (b : BillD) (vb vp : Value) : List Value := [.string b.number, .string b.carrier, .string b.shipper, .string b.frm, .string b.to_, vb, vp, .int .i64 b.issued, .bool b.clean]
structure BillAt (A : Nat → Prop) (w : World) (cs : List Value) (b : BillD) : Prop where
  is : ∃ vb vp, cs = encB b vb vp ∧ SlS A w vb b.boxes ∧ SlS A w vp b.parents
theorem BillAt.ext {A F : Nat → Prop} {w w' : World} {cs : List Value} {b : BillD} (h : BillAt A w cs b) (hx : Ext F w w') (hn : ∀ b, A b → ¬ F b) : BillAt A w' cs b := by
  obtain ⟨vb, vp, h1, h2, h3⟩ := h.is
  exact ⟨vb, vp, h1, h2.ext hx hn, h3.ext hx hn⟩
theorem BillAt.ex {A : Nat → Prop} {w w' : World} {cs : List Value} {b : BillD} (h : BillAt A w cs b) (hx : Ex w w') : BillAt A w' cs b := h.ext hx fun _ _ f => f
theorem BillAt.weaken {A B : Nat → Prop} {w : World} {cs : List Value} {b : BillD} (h : BillAt A w cs b) (hn : ∀ b, A b → B b) : BillAt B w cs b := by
  obtain ⟨vb, vp, h1, h2, h3⟩ := h.is
  exact ⟨vb, vp, h1, h2.weaken hn, h3.weaken hn⟩
abbrev SlE (A : Nat → Prop) (w : World) (v : Value) (l : List EndD) : Prop := Sl A w v 4 (l.map encE)
theorem flat_single {α β : Type} (f : α → β) (l : List α) : (l.map fun s => [f s]).flatten = l.map f := by
  induction l with
  | nil => rfl
  | cons a l ih => simp [ih]
abbrev ChainOk (w : World) (vc : Value) (l : List EndD) : Prop := w.ownsRow 0 139 4 vc l.length (l.map encE).flatten
structure GhostE where
  e : Nat
  vb : Value
  vp : Value
  vcs : List Value
def papCells : List PapD → List Value → List Value
  | p :: ps, vc :: vcs => .int .i64 p.state :: .string p.holder :: vc :: papCells ps vcs
  | _, _ => []
def entCells (x : EntD) (g : GhostE) : List Value := encB x.bill g.vb g.vp ++ .int .i64 x.state :: papCells x.ps g.vcs
def GhostE.fp (g : GhostE) : List Nat := g.e :: g.vcs.filterMap Value.ownBlock
structure GhostE.Nd (g : GhostE) : Prop where
  e : ∀ (i : Nat) (vc : Value), g.vcs[i]? = some vc → vc.ownBlock ≠ some g.e
  vcs : ∀ (i j : Nat) (v u : Value) (b : Nat), i ≠ j → g.vcs[i]? = some v → g.vcs[j]? = some u → v.ownBlock = some b → u.ownBlock ≠ some b
def GhostE.rd (g : GhostE) : List Nat := [g.vb, g.vp].filterMap Value.ownBlock
def foot (p m : Nat) (gs : List GhostE) : List Nat := p :: m :: gs.flatMap fun g => g.fp ++ g.rd
theorem flat4 (l : List ByteArray) : (l.map fun s => [Value.string s]).flatten = l.map Value.string := flat_single _ _
theorem sls_own {A : Nat → Prop} {w : World} {base e : Nat} {v : Value} {l : List ByteArray} (h : w.ownsRow base e 1 v l.length (l.map Value.string)) (hA : ∀ b, v.ownBlock = some b → A b) : SlS A w v l := by
  have : Sl A w v 1 (l.map fun s => [Value.string s]) := own_sl (by rw [flat4, List.length_map]; exact h) (by simp) hA
  exact this
theorem own_base {w : World} {base e size n : Nat} {v : Value} {xs : List Value} (h : w.ownsRow base e size v n xs) {b : Nat} (hb : v.ownBlock = some b) : base ≤ b ∧ b < w.heap.size := by
  rcases h.2 with ⟨rfl, _⟩ | ⟨g, cap, cur, rfl, h2, h3, _⟩
  · simp [Value.ownBlock] at hb
  · simp [Value.ownBlock] at hb; subst hb; exact ⟨h2, (Array.getElem?_eq_some_iff.1 h3).1⟩
theorem own_one {w : World} {base e size n : Nat} {v : Value} {xs : List Value} (h : w.ownsRow base e size v n xs) : v.oneCell' = true := by
  rcases h.2 with ⟨rfl, _⟩ | ⟨g, cap, cur, rfl, _⟩ <;> rfl
theorem own_mono {w : World} {base base' : Nat} {e : TypeId} {size n : Nat} {v : Value} {xs : List Value} (h : w.ownsRow base e size v n xs) (hb : base' ≤ base) : w.ownsRow base' e size v n xs := by
  refine ⟨h.1, ?_⟩
  rcases h.2 with hnil | ⟨g, cap, cur, h1, h2, rest⟩
  · exact .inl hnil
  · exact .inr ⟨g, cap, cur, h1, Nat.le_trans hb h2, rest⟩
structure EntOk (w : World) (x : EntD) (g : GhostE) : Prop where
  blk : Blk w g.e (entCells x g) 87
  boxesO : w.ownsRow 0 9 1 g.vb x.bill.boxes.length (x.bill.boxes.map Value.string)
  parentsO : w.ownsRow 0 9 1 g.vp x.bill.parents.length (x.bill.parents.map Value.string)
  three : x.ps.length = 3
  three' : g.vcs.length = 3
  chains : ∀ (i : Nat) (p : PapD) (vc : Value), x.ps[i]? = some p → g.vcs[i]? = some vc → ChainOk w vc p.chain
theorem EntOk.boxes {w : World} {x : EntD} {g : GhostE} (h : EntOk w x g) : SlS (fun _ => True) w g.vb x.bill.boxes := sls_own h.boxesO fun _ _ => trivial
theorem EntOk.parents {w : World} {x : EntD} {g : GhostE} (h : EntOk w x g) : SlS (fun _ => True) w g.vp x.bill.parents := sls_own h.parentsO fun _ _ => trivial
theorem GhostE.fp_mem {g : GhostE} {b : Nat} : b ∈ g.fp ↔ b = g.e ∨ ∃ (i : Nat) (vc : Value), g.vcs[i]? = some vc ∧ vc.ownBlock = some b := by
  simp only [GhostE.fp, List.mem_cons, List.mem_filterMap]
  constructor
  · rintro (h | ⟨vc, h1, h2⟩)
    · exact .inl h
    · obtain ⟨i, hi⟩ := List.getElem?_of_mem h1; exact .inr ⟨i, vc, hi, h2⟩
  · rintro (h | ⟨i, vc, h1, h2⟩)
    · exact .inl h
    · exact .inr ⟨vc, List.mem_of_getElem? h1, h2⟩
theorem GhostE.rd_mem {g : GhostE} {b : Nat} : b ∈ g.rd ↔ g.vb.ownBlock = some b ∨ g.vp.ownBlock = some b := by
  simp [GhostE.rd]
theorem EntOk.lt {w : World} {x : EntD} {g : GhostE} (h : EntOk w x g) {b : Nat} (hb : b ∈ g.fp ∨ b ∈ g.rd) : b < w.heap.size := by
  rcases hb with hb | hb
  · rcases GhostE.fp_mem.1 hb with rfl | ⟨i, vc, h1, h2⟩
    · exact h.blk.lt
    · have hi : i < x.ps.length := by have := (List.getElem?_eq_some_iff.1 h1).1; rw [h.three'] at this; rw [h.three]; exact this
      exact (own_base (h.chains i x.ps[i] vc (by simp [hi]) h1) h2).2
  · rcases GhostE.rd_mem.1 hb with hb | hb
    · exact (own_base h.boxesO hb).2
    · exact (own_base h.parentsO hb).2
theorem EntOk.ext {F : Nat → Prop} {w w' : World} {x : EntD} {g : GhostE} (h : EntOk w x g) (hx : Ext F w w') (h1 : ∀ b ∈ g.fp, ¬ F b) (h2 : ∀ b ∈ g.rd, ¬ F b) : EntOk w' x g :=
  ⟨h.blk.ext hx (h1 _ (GhostE.fp_mem.2 (.inl rfl))), own_ext h.boxesO hx (fun b hb => h2 b (GhostE.rd_mem.2 (.inl hb))), own_ext h.parentsO hx (fun b hb => h2 b (GhostE.rd_mem.2 (.inr hb))), h.three, h.three',
    fun i p vc g1 g2 => own_ext (h.chains i p vc g1 g2) hx (fun b hb => h1 b (GhostE.fp_mem.2 (.inr ⟨i, vc, g2, hb⟩)))⟩
theorem EntOk.ex {w w' : World} {x : EntD} {g : GhostE} (h : EntOk w x g) (hx : Ex w w') : EntOk w' x g := h.ext hx (fun _ _ f => f) (fun _ _ f => f)
def mapOf (l : List EntD) (gs : List GhostE) : List (ByteArray × Value) := (l.zip gs).map fun x => (x.1.bill.number, .pointer (some ⟨x.2.e, 0, none⟩))
def RegD.Nd (r : RegD) : Prop := ∀ (i j : Nat) (x y : EntD), r.l[i]? = some x → r.l[j]? = some y → x.bill.number = y.bill.number → i = j
structure Rep (w : World) (p : Nat) (r : RegD) (m : Nat) (gs : List GhostE) : Prop where
  blk : Blk w p [.string r.carrier, .map (some m)] 80
  map : ∃ es, Mp w m es ∧ es.Perm (mapOf r.l gs)
  nd : r.Nd
  len : r.l.length = gs.length
  ents : ∀ (i : Nat) (x : EntD) (g : GhostE), r.l[i]? = some x → gs[i]? = some g → EntOk w x g
  fpn : ∀ (i : Nat) (g : GhostE), gs[i]? = some g → g.Nd ∧ m ∉ g.fp ∧ m ∉ g.rd ∧ p ∉ g.fp ∧ p ∉ g.rd
  disj : ∀ (i j : Nat) (g g' : GhostE), i ≠ j → gs[i]? = some g → gs[j]? = some g' → ∀ b ∈ g.fp, b ∉ g'.fp
  rdn : ∀ (i j : Nat) (g g' : GhostE), gs[i]? = some g → gs[j]? = some g' → ∀ b ∈ g.fp, b ∉ g'.rd
  pm : p ≠ m
theorem mget_perm {k : ByteArray} : ∀ {es es' : List (ByteArray × Value)}, es.Perm es' → (es'.map (·.1)).Nodup → mget es k = mget es' k := by
  intro es es' h
  induction h with
  | nil => intro _; rfl
  | cons x _ ih =>
    intro hn
    simp only [List.map_cons, List.nodup_cons] at hn
    have := ih hn.2
    unfold mget at this ⊢
    by_cases e : k = x.1 <;> simp [e]
    simpa [e] using this
  | swap x y l =>
    intro hn
    simp only [List.map_cons, List.nodup_cons, List.mem_cons, not_or] at hn
    unfold mget
    by_cases e : k = x.1 <;> by_cases e' : k = y.1
    · exact absurd (e.symm.trans e') hn.1.1
    · subst e; simp [e']
    · subst e'; simp [e]
    · simp [e, e']
  | trans h1 h2 ih1 ih2 => intro hn; rw [ih1 ((h2.map _).nodup_iff.2 hn), ih2 hn]
theorem foot_mem {p m : Nat} {gs : List GhostE} {b : Nat} : b ∈ foot p m gs ↔ b = p ∨ b = m ∨ ∃ (i : Nat) (g : GhostE), gs[i]? = some g ∧ (b ∈ g.fp ∨ b ∈ g.rd) := by
  simp only [foot, List.mem_cons, List.mem_flatMap, List.mem_append]
  constructor
  · rintro (h | h | ⟨g, h1, h2⟩)
    · exact .inl h
    · exact .inr (.inl h)
    · obtain ⟨i, hi⟩ := List.getElem?_of_mem h1; exact .inr (.inr ⟨i, g, hi, h2⟩)
  · rintro (h | h | ⟨i, g, h1, h2⟩)
    · exact .inl h
    · exact .inr (.inl h)
    · exact .inr (.inr ⟨g, List.mem_of_getElem? h1, h2⟩)
section
variable {w w' : World} {p : Nat} {r : RegD} {m : Nat} {gs : List GhostE}
theorem Rep.ent? (h : Rep w p r m gs) {i : Nat} {g : GhostE} (hg : gs[i]? = some g) : ∃ x, r.l[i]? = some x := by
  have := (List.getElem?_eq_some_iff.1 hg).1
  rw [← h.len] at this
  exact ⟨r.l[i], List.getElem?_eq_getElem this⟩
theorem Rep.foot_lt (h : Rep w p r m gs) {b : Nat} (hb : b ∈ foot p m gs) : b < w.heap.size := by
  rcases foot_mem.1 hb with rfl | rfl | ⟨i, g, h1, h2⟩
  · exact h.blk.lt
  · obtain ⟨es, h1, _⟩ := h.map; exact h1.lt
  · obtain ⟨x, hx⟩ := h.ent? h1
    exact (h.ents i x g hx h1).lt h2
theorem Rep.keys (h : Rep w p r m gs) : ((mapOf r.l gs).map (·.1)).Nodup := by
  have e : (mapOf r.l gs).map (·.1) = r.l.map (·.bill.number) := by
    simp only [mapOf, List.map_map]
    have key : ∀ (l : List EntD) (gs : List GhostE), l.length = gs.length → (l.zip gs).map ((fun e : ByteArray × Value => e.1) ∘ fun x : EntD × GhostE => (x.1.bill.number, Value.pointer (some ⟨x.2.e, 0, none⟩))) = l.map (·.bill.number) := by
      intro l
      induction l with
      | nil => intro gs _; rfl
      | cons a l ih =>
        intro gs hg
        cases gs with
        | nil => simp at hg
        | cons g gs => simp only [List.zip_cons_cons, List.map_cons, ih gs (by simpa using hg)]; rfl
    exact key r.l gs h.len
  rw [e]
  unfold List.Nodup
  rw [List.pairwise_iff_getElem]
  intro i j hi hj hij he
  rw [List.length_map] at hi hj
  rw [List.getElem_map, List.getElem_map] at he
  have := h.nd i j _ _ (List.getElem?_eq_getElem hi) (List.getElem?_eq_getElem hj) he
  omega
theorem Rep.get (h : Rep w p r m gs) {es : List (ByteArray × Value)} (hp : es.Perm (mapOf r.l gs)) (n : ByteArray) : mget es n = mget (mapOf r.l gs) n := mget_perm hp h.keys
theorem Rep.frame {F : Nat → Prop} (h : Rep w p r m gs) (hx : Ext F w w') (hF : ∀ b ∈ foot p m gs, ¬ F b) : Rep w' p r m gs :=
  ⟨h.blk.ext hx (hF p (foot_mem.2 (.inl rfl))), (let ⟨es, h1, h2⟩ := h.map; ⟨es, h1.ext hx (hF m (foot_mem.2 (.inr (.inl rfl)))), h2⟩), h.nd, h.len,
    fun i x g h1 h2 => (h.ents i x g h1 h2).ext hx (fun b hb => hF b (foot_mem.2 (.inr (.inr ⟨i, g, h2, .inl hb⟩)))) (fun b hb => hF b (foot_mem.2 (.inr (.inr ⟨i, g, h2, .inr hb⟩)))),
    h.fpn, h.disj, h.rdn, h.pm⟩
theorem Rep.ex (h : Rep w p r m gs) (hx : Ex w w') : Rep w' p r m gs := h.frame hx fun _ _ f => f
structure Mut (w : World) (p m : Nat) (gs : List GhostE) (r' : RegD) (w' : World) : Prop where
  is : ∃ gs', Rep w' p r' m gs' ∧ ∀ b ∈ foot p m gs', b ∈ foot p m gs ∨ w.heap.size ≤ b
  ext : Ext (· ∈ foot p m gs) w w'
theorem Mut.of_ex (h : Rep w p r m gs) (hx : Ex w w') : Mut w p m gs r w' := ⟨⟨gs, h.ex hx, fun _ hb => .inl hb⟩, .of_ex hx⟩
end
end Go.Proofs.YtnglkhnfmbnfeaaGreat
namespace Go.Proofs.YtnglkhnfmbnfeaaGreat
open Go Go.SK
theorem encE_one {l : List EndD} : ∀ r ∈ l.map encE, ∀ u ∈ r, u.oneCell' = true := by
  intro r hr u hu
  obtain ⟨x, _, rfl⟩ := List.mem_map.1 hr
  simp [encE] at hu
  rcases hu with rfl | rfl | rfl | rfl <;> rfl
theorem clone_end {A : Nat → Prop} {v : Value} {l : List EndD} (w : World) (hS : SlE A w v l) (hb : l.length ≤ 1000000) :
    Ret Tryz.prog 108 [v] w fun u w' => w'.ownsRow w.heap.size 139 4 u l.length (l.map encE).flatten ∧ Ex w w' := by
  have hS' := hS
  obtain ⟨a, cap, rfl, hz, hr⟩ := hS.is
  simp only [List.length_map] at *
  refine ret_of Tryz.func108 Tryz.ntmps108 rfl rfl rfl ?_
  (repeat (first | refine lw_pure hT rfl ?_ | refine lw_nil ?_ | refine cw_seq ?_ | refine cw_region ?_ | refine qw_then ?_))
  cases a with
  | none =>
    have h0 : l = [] := by
      by_cases h : l = []
      · exact h
      · obtain ⟨b, o, ha, _⟩ := hr (by simpa using h); cases ha
    subst h0
    (repeat (first | refine lw_pure hT rfl ?_ | refine lw_nil ?_ | refine cw_seq ?_ | refine cw_region ?_ | refine qw_then ?_ | refine cw_ret ?_ | refine qw_then_ret ?_ | (refine cw_cond_t rfl ?_ ?_; focus with_reducible (first | rfl | exact Bool.not_false | exact Bool.not_true)) | refine lw_eqs_none hT rfl rfl ?_))
    exact qw_ret rfl ⟨World.ownsRow_nil _ _ _ _, Ext.refl _ _⟩
  | some ad =>
    (repeat (first | refine lw_nil ?_ | refine cw_seq ?_ | refine cw_region ?_ | refine qw_then ?_ | refine cw_skip ?_ | (refine cw_cond_f rfl ?_ ?_; focus with_reducible (first | rfl | exact Bool.not_false | exact Bool.not_true)) | refine lw_eqs_some hT rfl rfl ?_))
    refine lw_buildSlice sl82 rfl rfl rfl ?_
    rintro b w1 rfl hb1 hx1 hs1
    (repeat (refine lw_pure hT rfl ?_))
    have hown : w1.ownsRow w.heap.size 139 4 (.slice (some ⟨w.heap.size, 0, none⟩) 0 0) 0 [] := own_lit hb1 (Nat.le_refl _) rfl (by decide)
    refine lw_append_sl sl82 (by decide) rfl hown rfl (hS'.ex hx1) encE_one (by simp [maxLen]; omega) (by simp; omega) (by omega) ?_
    intro v' w2 g1 g2 g3 g4
    (repeat (first | refine lw_pure hT rfl ?_ | refine lw_nil ?_ | refine qw_then ?_ | refine cw_ret ?_))
    refine qw_ret rfl ⟨by simpa [oneOr] using g1, ?_⟩
    exact hx1.trans' g2 (fun _ _ f => f.elim) (fun i hi g => by simp [Value.ownBlock] at g; omega)
theorem reg_day (n : Int) (w : World) : Ret Tryz.prog 114 [.int .i64 n] w fun v w' => v = .bool (dayB n) ∧ w = w' := by
  refine ret_of Tryz.func114 Tryz.ntmps114 rfl rfl rfl ?_
  (repeat (first | refine lw_pure hT rfl ?_ | refine lw_nil ?_ | refine cw_seq ?_ | refine cw_region ?_ | refine qw_then ?_))
  refine lw_guard rfl (fun h => ?_) (fun h => ?_) <;> (repeat (first | refine lw_pure hT rfl ?_ | refine lw_nil ?_ | refine qw_then ?_ | refine cw_ret ?_ | (refine lw_gon_t rfl ?_ ?_; focus with_reducible (first | rfl | exact Bool.not_false | exact Bool.not_true)) | (refine lw_goff_f rfl ?_ ?_; focus with_reducible (first | rfl | exact Bool.not_false | exact Bool.not_true)))) <;> refine qw_ret rfl ⟨?_, rfl⟩ <;> simp at h <;> simp [oneOr, dayB, h]
  omega
theorem reg_names1 (s : ByteArray) (w : World) (hs : s.size ≤ maxLen) : Ret Tryz.prog 143 [.string s] w fun v w' => v = .bool (!nameB s) ∧ Ex w w' := by
  refine ret_of Tryz.func143 Tryz.ntmps143 rfl rfl rfl ?_
  (repeat (first | refine lw_pure hT rfl ?_ | refine lw_nil ?_ | refine cw_seq ?_ | refine cw_region ?_ | refine qw_then ?_))
  refine lw_call hT rfl rfl (mark_Name s w hs) ?_
  rintro _ _ ⟨rfl, rfl⟩
  (repeat (first | refine lw_pure hT rfl ?_ | refine lw_nil ?_ | refine qw_then ?_ | refine cw_ret ?_))
  exact qw_ret rfl ⟨rfl, Ext.refl _ _⟩
theorem any_not (p : ByteArray → Bool) (l : List ByteArray) : (!l.any fun s => !p s) = l.all p := by
  induction l with
  | nil => rfl
  | cons a l ih => simp only [List.any_cons, List.all_cons, ← ih]; cases p a <;> simp
theorem reg_names {A : Nat → Prop} {v : Value} {l : List ByteArray} (w : World) (hS : SlS A w v l) (hs : ∀ s ∈ l, s.size ≤ maxLen) : Ret Tryz.prog 123 [v] w fun v w' => v = .bool (l.all nameB) ∧ Ex w w' := by
  refine ret_of Tryz.func123 Tryz.ntmps123 rfl rfl rfl ?_
  (repeat (first | refine lw_pure hT rfl ?_ | refine lw_nil ?_ | refine cw_seq ?_ | refine cw_region ?_ | refine qw_then ?_))
  refine lw_call hT rfl rfl (cnf_str (fun s => [Value.string s]) Value.string (fun _ => rfl) (fun s => !nameB s) (fi := []) (cp := []) w hS rfl fun s hm w' _ => reg_names1 s w' (hs s hm)) ?_
  rintro _ w1 ⟨rfl, hx⟩
  (repeat (first | refine lw_pure hT rfl ?_ | refine lw_nil ?_ | refine qw_then ?_ | refine cw_ret ?_))
  exact qw_ret rfl ⟨by rw [any_not]; rfl, hx⟩
theorem mget_seen (l : List ByteArray) (x : ByteArray) : (mget (l.map fun s => (s, Value.bool true)) x).getD (.bool false) = .bool (l.any fun y => decide (x = y)) := by
  induction l with
  | nil => rfl
  | cons a l ih =>
    unfold mget at ih ⊢
    by_cases h : x = a
    · simp [h]
    · simp only [List.map_cons, List.find?_cons, h, decide_false, List.any_cons, Bool.false_or]; exact ih
theorem mget_seen_none {l : List ByteArray} {x : ByteArray} (h : (l.any fun y => decide (x = y)) = false) : mget (l.map fun s => (s, Value.bool true)) x = none := by
  induction l with
  | nil => rfl
  | cons a l ih =>
    simp only [List.any_cons, Bool.or_eq_false_iff] at h
    have := ih h.2
    unfold mget at this ⊢
    simp only [List.map_cons, List.find?_cons, h.1]
    exact this
theorem once_snoc (l : List ByteArray) (x : ByteArray) : onceB (l ++ [x]) = (onceB l && !(l.any fun y => decide (x = y))) := by
  induction l with
  | nil => simp [onceB]
  | cons a l ih =>
    simp only [List.cons_append, onceB, ih, List.any_append, List.any_cons, List.any_nil, Bool.or_false]
    have e : decide (a = x) = decide (x = a) := by rw [Bool.eq_iff_iff]; simp [eq_comm]
    rw [e]
    cases (l.any fun y => decide (a = y)) <;> cases decide (x = a) <;> cases onceB l <;> cases (l.any fun y => decide (x = y)) <;> rfl
theorem once_bad {l : List ByteArray} {i : Nat} {x : ByteArray} (h : l[i]? = some x) (hb : rightB x = false ∨ ((l.take i).any fun y => decide (x = y)) = true) : (l.all rightB && onceB l) = false := by
  have e : l = l.take (i + 1) ++ l.drop (i + 1) := by simp
  rcases hb with hb | hb
  · have : l.all rightB = false := by rw [List.all_eq_false]; exact ⟨x, List.mem_of_getElem? h, by simp [hb]⟩
    simp [this]
  · have h1 : onceB (l.take (i + 1)) = false := by rw [List.take_add_one, h]; simp only [Option.toList_some]; rw [once_snoc, hb]; simp
    have key : ∀ (a b : List ByteArray), onceB a = false → onceB (a ++ b) = false := by
      intro a b
      induction a with
      | nil => intro h; cases h
      | cons x a ih =>
        intro h
        simp only [onceB, Bool.and_eq_false_iff] at h
        simp only [List.cons_append, onceB, Bool.and_eq_false_iff, List.any_append]
        rcases h with h | h
        · left; simp only [Bool.not_eq_false'] at h ⊢; simp [h]
        · right; exact ih h
    have := key _ (l.drop (i + 1)) h1
    rw [← e] at this
    simp [this]
set_option maxHeartbeats 400000 in
theorem reg_boxes {A : Nat → Prop} {v : Value} {l : List ByteArray} (w : World) (hS : SlS A w v l) (hs : ∀ s ∈ l, s.size ≤ maxLen) :
    Ret Tryz.prog 124 [v] w fun v w' => v = .bool (l.all rightB && onceB l && (decide (1 ≤ l.length) && decide (l.length ≤ 64))) ∧ Ex w w' := by
  have hm := hS.small
  obtain ⟨a, cap, rfl, hz, hr⟩ := hS.is
  simp only [List.length_map] at *
  unfold maxLen at hm
  refine ret_of Tryz.func124 Tryz.ntmps124 rfl rfl rfl ?_
  (repeat (first | refine lw_pure hT rfl ?_ | refine lw_nil ?_ | refine cw_seq ?_ | refine cw_region ?_ | refine qw_then ?_))
  refine lw_makeMap ?_
  rintro m w1 hmb hM1 hx1 hs1
  (repeat (first | refine lw_pure hT rfl ?_ | refine lw_nil ?_ | refine cw_seq ?_ | refine cw_region ?_ | refine qw_then ?_ | refine cw_block ?_))
  refine cw_loop (fun i : Nat => [(0, .slice a l.length cap), (3, .map (some m)), (7, .slice a l.length cap), (8, .int .i64 (l.length : Nat)), (9, .int .i64 (i : Nat))])
    (fun i w' => Ex w w' ∧ Mp w' m ((l.take i).map fun s => (s, Value.bool true)) ∧ i ≤ l.length ∧ ((l.take i).all rightB && onceB (l.take i)) = true) (fun i => l.length - i) 0 (by repeat (first | exact trivial | refine ⟨rfl, ?_⟩)) ⟨hx1, by simpa using hM1, Nat.zero_le _, by simp [onceB]⟩ ?_
  rintro i w2 ⟨hx2, hM2, hi, ha⟩
  (repeat (first | refine lw_pure hT rfl ?_ | refine lw_nil ?_ | refine cw_seq ?_ | refine cw_region ?_ | refine qw_then ?_))
  refine cw_cond rfl (fun h => ?_) (fun h => ?_)
  · have hlt : i < l.length := by simp at h; omega
    have hg : l[i]? = some l[i] := List.getElem?_eq_getElem hlt
    have hne : l.map (fun s => [Value.string s]) ≠ [] := by intro e; simp at e; subst e; simp at hlt
    obtain ⟨b, o, rfl, hA, hrd⟩ := hr hne
    obtain ⟨hlen, hrd⟩ := hrd i [.string l[i]] (by simp [hlt])
    simp only [Bool.and_eq_true] at ha
    (repeat (first | refine cw_seq ?_ | refine cw_region ?_ | refine qw_then ?_ | refine cw_skip ?_ | refine cw_block ?_))
    refine lw_index hT rfl rfl rfl i rfl hlt ?_
    skip
    refine lw_load hT rfl rfl (v := .string l[i]) (hx2.cell (hrd 0 _ rfl)) ?_
    (repeat (first | refine lw_pure hT rfl ?_ | refine lw_nil ?_ | refine cw_seq ?_ | refine cw_region ?_ | refine qw_then ?_))
    refine lw_call hT rfl rfl (mark_Right l[i] w2 (hs _ (List.getElem_mem hlt))) ?_
    rintro _ w3 ⟨rfl, hx3⟩
    have hM3 := hM2.ex hx3
    (repeat (refine lw_pure hT rfl ?_))
    refine lw_guard rfl (fun h1 => ?_) (fun h1 => ?_)
    · rw [Bool.not_eq_true'] at h1
      (repeat (first | refine lw_pure hT rfl ?_ | refine lw_nil ?_ | refine cw_seq ?_ | refine cw_region ?_ | refine qw_then ?_ | refine cw_ret ?_ | refine qw_then_ret ?_ | (refine lw_goff_t rfl ?_ ?_; focus with_reducible (first | rfl | exact Bool.not_false | exact Bool.not_true)) | refine qw_block_ret ?_ | (refine cw_cond_t rfl ?_ ?_; focus with_reducible (first | rfl | exact Bool.not_false | exact Bool.not_true))))
      refine qw_ret rfl ⟨?_, hx2.trans hx3⟩
      rw [once_bad hg (.inl h1)]; rfl
    · rw [Bool.not_eq_false'] at h1
      (repeat (first | refine lw_pure hT rfl ?_ | (refine lw_gon_f rfl ?_ ?_; focus with_reducible (first | rfl | exact Bool.not_false | exact Bool.not_true))))
      refine lw_lookup mp111 rfl rfl hM3 ?_
      rw [mget_seen]
      (repeat (first | refine lw_pure hT rfl ?_ | refine lw_nil ?_ | refine qw_then ?_))
      refine cw_cond rfl (fun h2 => ?_) (fun h2 => ?_)
      · (repeat (first | refine lw_pure hT rfl ?_ | refine lw_nil ?_ | refine cw_seq ?_ | refine cw_region ?_ | refine qw_then ?_ | refine cw_ret ?_ | refine qw_then_ret ?_ | refine qw_block_ret ?_))
        refine qw_ret rfl ⟨?_, hx2.trans hx3⟩
        rw [once_bad hg (.inr h2)]; rfl
      · (repeat (first | refine lw_pure hT rfl ?_ | refine cw_region ?_ | refine qw_then ?_ | refine cw_skip ?_))
        refine lw_mapUpdate mp111 rfl rfl rfl hM3 (mget_seen_none h2) ?_
        intro w4 hM4 hx4 hs4
        (repeat (first | (refine lw_add rfl rfl ?_ ?_ ?_; iterate 2 omega) | refine lw_pure hT rfl ?_ | refine lw_nil ?_ | refine cw_region ?_ | refine qw_then ?_ | refine qw_block ?_))
        refine qw_round (i + 1) (by repeat (first | exact trivial | refine ⟨rfl, ?_⟩)) ⟨(hx2.trans hx3).up_new hx4 (fun i hi => by subst hi; omega), ?_, hlt, ?_⟩ (by omega)
        · rw [List.take_add_one, hg]
          simp only [Option.toList_some, List.map_append, List.map_cons, List.map_nil]; exact hM4
        · rw [List.take_add_one, hg]
          simp only [Option.toList_some]
          rw [once_snoc, List.all_append, h2, ha.1, ha.2]
          simp [h1]
  · have : i = l.length := by simp at h; omega
    subst this
    rw [List.take_length] at ha
    (repeat (first | refine lw_pure hT rfl ?_ | refine cw_seq ?_ | refine cw_region ?_ | refine qw_then ?_ | refine cw_exit ?_ | refine qw_block_exit ?_ | refine qw_then_exit ?_))
    refine lw_guard rfl (fun h1 => ?_) (fun h1 => ?_)
    · have h1 : 1 ≤ l.length := by simp at h1; omega
      (repeat (first | refine lw_pure hT rfl ?_ | refine lw_nil ?_ | refine qw_then ?_ | refine cw_ret ?_ | (refine lw_gon_t rfl ?_ ?_; focus with_reducible (first | rfl | exact Bool.not_false | exact Bool.not_true))))
      refine qw_ret rfl ⟨?_, hx2⟩
      rw [ha]
      simp [oneOr, h1]; omega
    · have h1 : ¬ 1 ≤ l.length := by simp at h1; omega
      (repeat (first | refine lw_pure hT rfl ?_ | refine lw_nil ?_ | refine qw_then ?_ | refine cw_ret ?_ | (refine lw_goff_f rfl ?_ ?_; focus with_reducible (first | rfl | exact Bool.not_false | exact Bool.not_true))))
      exact qw_ret rfl ⟨by simp [oneOr, h1], hx2⟩
theorem sls_of_blk {w : World} {b e cap : Nat} {l : List ByteArray} (h : Blk w b (l.map Value.string) e) (hl : l.length ≤ maxLen) : SlS (fun _ => True) w (.slice (some ⟨b, 0, none⟩) l.length cap) l := by
  have := Sl.of_rd (A := fun _ => True) (w := w) (b := b) (o := 0) (cap := cap) (size := 1) (rows := l.map fun s => [Value.string s]) trivial (by simp) (by
    rw [flat_single]
    have := h.rd 0 (l.map Value.string).length
    rwa [List.drop_zero, List.take_length] at this) (by simpa using hl)
  simpa using this
structure BillD.Ok (b : BillD) : Prop where
  number : b.number.size ≤ maxLen
  carrier : b.carrier.size ≤ maxLen
  shipper : b.shipper.size ≤ maxLen
  frm : b.frm.size ≤ maxLen
  to_ : b.to_.size ≤ maxLen
  boxes : ∀ x ∈ b.boxes, x.size ≤ maxLen
  parents : ∀ x ∈ b.parents, x.size ≤ maxLen
set_option maxHeartbeats 1000000 in
theorem reg_may {A : Nat → Prop} {p : Nat} {c : ByteArray} {mv : Value} (w : World) (b : BillD) (vb vp : Value) (hp : Blk w p [.string c, mv] 80) (hB : SlS A w vb b.boxes) (hP : SlS A w vp b.parents) (hok : b.Ok) :
    Ret Tryz.prog 72 [.pointer (some ⟨p, 0, none⟩), .agg ⟨encB b vb vp⟩] w fun v w' => v = .bool (mayB c b) ∧ Ex w w' := by
  obtain ⟨ab, cb, rfl, hzb, hrb⟩ := hB.is
  obtain ⟨ap, cp, rfl, hzp, hrp⟩ := hP.is
  simp only [List.length_map] at *
  refine ret_of Tryz.func72 Tryz.ntmps72 rfl rfl rfl ?_
  (repeat (first | refine cw_seq ?_ | refine cw_region ?_))
  refine lw_box rfl ?_
  intro bb w1 hbb hb1 hx1 hs1
  replace hb1 : Blk w1 bb (encB b (.slice ab b.boxes.length cb) (.slice ap b.parents.length cp)) 33 := hb1
  (repeat (first | refine lw_pure hT rfl ?_ | refine lw_nil ?_ | refine cw_seq ?_ | refine qw_then ?_))
  refine cw_draw hM (fun w' => Ex w1 w') [] rfl rfl (by repeat with_reducible (first | refine nop_then ?_ | refine nop_block ?_ | exact nop_body)) (fun w2 hx2 _ => ⟨hx2, ?_⟩)
  (refine rw_takeP 0 rfl rfl (by kernel_rfl) (by kernel_rfl) (by kernel_rfl) (by kernel_rfl) rfl (yo_pure hT rfl) ?_)
  refine rw_take 1 rfl rfl (by kernel_rfl) (by kernel_rfl) (by kernel_rfl) (by kernel_rfl) rfl (yo_load hT rfl rfl (fun w' hS => hS.cell (hb1.cell 0))) ?_
  (refine rw_takeP 2 rfl rfl (by kernel_rfl) (by kernel_rfl) (by kernel_rfl) (by kernel_rfl) rfl (yo_pure hT rfl) ?_)
  refine rw_take 3 rfl rfl (by kernel_rfl) (by kernel_rfl) (by kernel_rfl) (by kernel_rfl) rfl (yo_load hT rfl rfl (fun w' hS => hS.cell (hb1.cell 2))) ?_
  (refine rw_takeP 4 rfl rfl (by kernel_rfl) (by kernel_rfl) (by kernel_rfl) (by kernel_rfl) rfl (yo_pure hT rfl) ?_)
  refine rw_take 5 rfl rfl (by kernel_rfl) (by kernel_rfl) (by kernel_rfl) (by kernel_rfl) rfl (yo_load hT rfl rfl (fun w' hS => hS.cell (hb1.cell 3))) ?_
  (refine rw_takeP 6 rfl rfl (by kernel_rfl) (by kernel_rfl) (by kernel_rfl) (by kernel_rfl) rfl (yo_pure hT rfl) ?_)
  refine rw_take 7 rfl rfl (by kernel_rfl) (by kernel_rfl) (by kernel_rfl) (by kernel_rfl) rfl (yo_load hT rfl rfl (fun w' hS => hS.cell (hb1.cell 4))) ?_
  refine rw_one 8 rfl (by kernel_rfl) rfl (fun hcl => ?_)
  refine lw_buildSlice sl31 rfl rfl rfl ?_
  intro bn w3 hbn hn3 hx3 hs3
  (repeat (refine lw_nil ?_))
  refine qw_rw (by repeat with_reducible (first | refine nop_then ?_ | refine nop_block ?_ | exact nop_body)) hcl (fun _ => hx2.trans hx3) ?_
  refine rw_one 9 rfl (by kernel_rfl) rfl (fun hcl => ?_)
  refine lw_call hT rfl rfl (reg_names w3 (l := [b.number, b.shipper, b.frm, b.to_]) (sls_of_blk (l := [b.number, b.shipper, b.frm, b.to_]) hn3 (by simp [maxLen])) (by
    intro s hs
    simp only [List.mem_cons, List.not_mem_nil, or_false] at hs
    rcases hs with rfl | rfl | rfl | rfl
    · exact hok.number
    · exact hok.shipper
    · exact hok.frm
    · exact hok.to_)) ?_
  rintro _ w4 ⟨rfl, hx4⟩
  have hx14 : Ex w1 w4 := (hx2.trans hx3).trans hx4
  have hx04 : Ex w w4 := hx1.trans hx14
  (repeat (refine lw_nil ?_))
  refine qw_rw (by repeat with_reducible (first | refine nop_then ?_ | refine nop_block ?_ | exact nop_body)) hcl (fun _ => hx14) ?_
  have fin : ∀ (r : Bool) w', Ex w1 w' → r = mayB c b → QW (bodyPost Tryz.prog Tryz.f72 fun e w' => ∃ v, e = .returned v ∧ v = .bool (mayB c b) ∧ Ex w w') .ret 45 [(4, .bool r)] w' := fun r w' hx hr => by
    subst hr
    exact qw_ret rfl ⟨rfl, hx1.trans hx⟩
  have e0 : [b.number, b.shipper, b.frm, b.to_].all nameB = (nameB b.number && nameB b.shipper && nameB b.frm && nameB b.to_) := by simp [Bool.and_assoc]
  rw [e0]
  (refine rw_takeP 10 rfl rfl (by kernel_rfl) (by kernel_rfl) (by kernel_rfl) (by kernel_rfl) rfl (yo_pure hT rfl) ?_)
  refine rw_split (d := 15) rfl (fun h1 => ?_) (fun h1 => ?_)
  · (refine rw_takeP 11 rfl rfl (by kernel_rfl) (by kernel_rfl) (by kernel_rfl) (by kernel_rfl) rfl (yo_on rfl rfl (yo_pure hT rfl)) ?_)
    refine rw_take 12 rfl rfl (by kernel_rfl) (by kernel_rfl) (by kernel_rfl) (by kernel_rfl) rfl (yo_on rfl rfl (yo_load hT rfl rfl (fun w' hS => hS.cell (hb1.cell 1)))) ?_
    (refine rw_takeP 13 rfl rfl (by kernel_rfl) (by kernel_rfl) (by kernel_rfl) (by kernel_rfl) rfl (yo_on rfl rfl (yo_pure hT rfl)) ?_; refine rw_takeP 14 rfl rfl (by kernel_rfl) (by kernel_rfl) (by kernel_rfl) (by kernel_rfl) rfl (yo_on rfl rfl (yo_pure hT rfl)) ?_; refine rw_takeP 15 rfl rfl (by kernel_rfl) (by kernel_rfl) (by kernel_rfl) (by kernel_rfl) rfl (yo_on rfl rfl (yo_pure hT rfl)) ?_)
    refine rw_take 16 rfl rfl (by kernel_rfl) (by kernel_rfl) (by kernel_rfl) (by kernel_rfl) rfl (yo_on rfl rfl (yo_load hT rfl rfl (fun w' hS => Ex.cell (hx1.trans hS) (hp.cell 0)))) ?_
    (refine rw_takeP 17 rfl rfl (by kernel_rfl) (by kernel_rfl) (by kernel_rfl) (by kernel_rfl) rfl (yo_on rfl rfl (yo_pure hT rfl)) ?_)
    (refine rw_takeP 18 rfl rfl (by kernel_rfl) (by kernel_rfl) (by kernel_rfl) (by kernel_rfl) rfl (yo_pure hT rfl) ?_; refine rw_takeP 19 rfl rfl (by kernel_rfl) (by kernel_rfl) (by kernel_rfl) (by kernel_rfl) rfl (yo_pure hT rfl) ?_)
    refine rw_split (d := 24) rfl (fun h2 => ?_) (fun h2 => ?_)
    · (refine rw_takeP 20 rfl rfl (by kernel_rfl) (by kernel_rfl) (by kernel_rfl) (by kernel_rfl) rfl (yo_on rfl rfl (yo_pure hT rfl)) ?_)
      refine rw_take 21 rfl rfl (by kernel_rfl) (by kernel_rfl) (by kernel_rfl) (by kernel_rfl) rfl (yo_on rfl rfl (yo_load hT rfl rfl (fun w' hS => hS.cell (hb1.cell 5)))) ?_
      refine rw_one 22 rfl (by kernel_rfl) rfl (fun hcl => ?_)
      (repeat (refine lw_gon_t rfl ?_ ?_; focus with_reducible (first | rfl | exact Bool.not_false | exact Bool.not_true)))
      refine lw_call hT rfl rfl (reg_boxes w4 (hB.ex hx04) hok.boxes) ?_
      rintro _ w5 ⟨rfl, hx5⟩
      have hx15 := hx14.trans hx5
      (repeat (refine lw_nil ?_))
      refine qw_rw (by repeat with_reducible (first | refine nop_then ?_ | refine nop_block ?_ | exact nop_body)) hcl (fun _ => hx15) ?_
      (refine rw_takeP 23 rfl rfl (by kernel_rfl) (by kernel_rfl) (by kernel_rfl) (by kernel_rfl) rfl (yo_pure hT rfl) ?_; refine rw_takeP 24 rfl rfl (by kernel_rfl) (by kernel_rfl) (by kernel_rfl) (by kernel_rfl) rfl (yo_pure hT rfl) ?_)
      refine rw_split (d := 29) rfl (fun h3 => ?_) (fun h3 => ?_)
      · (refine rw_takeP 25 rfl rfl (by kernel_rfl) (by kernel_rfl) (by kernel_rfl) (by kernel_rfl) rfl (yo_on rfl rfl (yo_pure hT rfl)) ?_)
        refine rw_take 26 rfl rfl (by kernel_rfl) (by kernel_rfl) (by kernel_rfl) (by kernel_rfl) rfl (yo_on rfl rfl (yo_load hT rfl rfl (fun w' hS => hS.cell (hb1.cell 6)))) ?_
        (refine rw_takeP 27 rfl rfl (by kernel_rfl) (by kernel_rfl) (by kernel_rfl) (by kernel_rfl) rfl (yo_on rfl rfl (yo_pure hT rfl)) ?_; refine rw_takeP 28 rfl rfl (by kernel_rfl) (by kernel_rfl) (by kernel_rfl) (by kernel_rfl) rfl (yo_on rfl rfl (yo_pure hT rfl)) ?_)
        (refine rw_takeP 29 rfl rfl (by kernel_rfl) (by kernel_rfl) (by kernel_rfl) (by kernel_rfl) rfl (yo_pure hT rfl) ?_; refine rw_takeP 30 rfl rfl (by kernel_rfl) (by kernel_rfl) (by kernel_rfl) (by kernel_rfl) rfl (yo_pure hT rfl) ?_)
        refine rw_split (d := 35) rfl (fun h4 => ?_) (fun h4 => ?_)
        · (refine rw_takeP 31 rfl rfl (by kernel_rfl) (by kernel_rfl) (by kernel_rfl) (by kernel_rfl) rfl (yo_on rfl rfl (yo_pure hT rfl)) ?_)
          refine rw_take 32 rfl rfl (by kernel_rfl) (by kernel_rfl) (by kernel_rfl) (by kernel_rfl) rfl (yo_on rfl rfl (yo_load hT rfl rfl (fun w' hS => hS.cell (hb1.cell 6)))) ?_
          refine rw_one 33 rfl (by kernel_rfl) rfl (fun hcl => ?_)
          (repeat (refine lw_gon_t rfl ?_ ?_; focus with_reducible (first | rfl | exact Bool.not_false | exact Bool.not_true)))
          refine lw_call hT rfl rfl (reg_names w5 (hP.ex (hx1.trans hx15)) hok.parents) ?_
          rintro _ w6 ⟨rfl, hx6⟩
          have hx16 := hx15.trans hx6
          (repeat (refine lw_nil ?_))
          refine qw_rw (by repeat with_reducible (first | refine nop_then ?_ | refine nop_block ?_ | exact nop_body)) hcl (fun _ => hx16) ?_
          (refine rw_takeP 34 rfl rfl (by kernel_rfl) (by kernel_rfl) (by kernel_rfl) (by kernel_rfl) rfl (yo_pure hT rfl) ?_; refine rw_takeP 35 rfl rfl (by kernel_rfl) (by kernel_rfl) (by kernel_rfl) (by kernel_rfl) rfl (yo_pure hT rfl) ?_)
          refine rw_split (d := 40) rfl (fun h5 => ?_) (fun h5 => ?_)
          · (refine rw_takeP 36 rfl rfl (by kernel_rfl) (by kernel_rfl) (by kernel_rfl) (by kernel_rfl) rfl (yo_on rfl rfl (yo_pure hT rfl)) ?_)
            refine rw_take 37 rfl rfl (by kernel_rfl) (by kernel_rfl) (by kernel_rfl) (by kernel_rfl) rfl (yo_on rfl rfl (yo_load hT rfl rfl (fun w' hS => hS.cell (hb1.cell 7)))) ?_
            refine rw_one 38 rfl (by kernel_rfl) rfl (fun hcl => ?_)
            (repeat (refine lw_gon_t rfl ?_ ?_; focus with_reducible (first | rfl | exact Bool.not_false | exact Bool.not_true)))
            refine lw_call hT rfl rfl (reg_day _ w6) ?_
            rintro _ _ ⟨rfl, rfl⟩
            (repeat (refine lw_nil ?_))
            refine qw_rw (by repeat with_reducible (first | refine nop_then ?_ | refine nop_block ?_ | exact nop_body)) hcl (fun _ => hx16) ?_
            (refine rw_takeP 39 rfl rfl (by kernel_rfl) (by kernel_rfl) (by kernel_rfl) (by kernel_rfl) rfl (yo_pure hT rfl) ?_; refine rw_takeP 40 rfl rfl (by kernel_rfl) (by kernel_rfl) (by kernel_rfl) (by kernel_rfl) rfl (yo_pure hT rfl) ?_)
            refine rw_done (by kernel_rfl) ?_
            (repeat (first | refine qw_then ?_ | refine cw_ret ?_))
            refine qw_sub (by repeat (first | exact trivial | refine ⟨rfl, ?_⟩)) (fin _ _ hx16 ?_)
            have h4' : decide (b.parents.length ≤ 64) = true := by simp at h4 ⊢; omega
            simp only [mayB, h1, h2, h3, h4', h5, Bool.true_and]
          · (refine rw_takeP 36 rfl rfl (by kernel_rfl) (by kernel_rfl) (by kernel_rfl) (by kernel_rfl) rfl (yo_off rfl rfl) ?_; refine rw_takeP 37 rfl rfl (by kernel_rfl) (by kernel_rfl) (by kernel_rfl) (by kernel_rfl) rfl (yo_off rfl rfl) ?_; refine rw_takeP 38 rfl rfl (by kernel_rfl) (by kernel_rfl) (by kernel_rfl) (by kernel_rfl) rfl (yo_off rfl rfl) ?_)
            (refine rw_takeP 39 rfl rfl (by kernel_rfl) (by kernel_rfl) (by kernel_rfl) (by kernel_rfl) rfl (yo_pure hT rfl) ?_; refine rw_takeP 40 rfl rfl (by kernel_rfl) (by kernel_rfl) (by kernel_rfl) (by kernel_rfl) rfl (yo_pure hT rfl) ?_)
            refine rw_done (by kernel_rfl) ?_
            (repeat (first | refine qw_then ?_ | refine cw_ret ?_))
            exact qw_sub (by repeat (first | exact trivial | refine ⟨rfl, ?_⟩)) (fin _ _ hx16 (by simp [mayB, h5]))
        · (refine rw_takeP 31 rfl rfl (by kernel_rfl) (by kernel_rfl) (by kernel_rfl) (by kernel_rfl) rfl (yo_off rfl rfl) ?_; refine rw_takeP 32 rfl rfl (by kernel_rfl) (by kernel_rfl) (by kernel_rfl) (by kernel_rfl) rfl (yo_off rfl rfl) ?_; refine rw_takeP 33 rfl rfl (by kernel_rfl) (by kernel_rfl) (by kernel_rfl) (by kernel_rfl) rfl (yo_off rfl rfl) ?_)
          (refine rw_takeP 34 rfl rfl (by kernel_rfl) (by kernel_rfl) (by kernel_rfl) (by kernel_rfl) rfl (yo_pure hT rfl) ?_; refine rw_takeP 35 rfl rfl (by kernel_rfl) (by kernel_rfl) (by kernel_rfl) (by kernel_rfl) rfl (yo_pure hT rfl) ?_)
          (refine rw_takeP 36 rfl rfl (by kernel_rfl) (by kernel_rfl) (by kernel_rfl) (by kernel_rfl) rfl (yo_off rfl rfl) ?_; refine rw_takeP 37 rfl rfl (by kernel_rfl) (by kernel_rfl) (by kernel_rfl) (by kernel_rfl) rfl (yo_off rfl rfl) ?_; refine rw_takeP 38 rfl rfl (by kernel_rfl) (by kernel_rfl) (by kernel_rfl) (by kernel_rfl) rfl (yo_off rfl rfl) ?_)
          (refine rw_takeP 39 rfl rfl (by kernel_rfl) (by kernel_rfl) (by kernel_rfl) (by kernel_rfl) rfl (yo_pure hT rfl) ?_; refine rw_takeP 40 rfl rfl (by kernel_rfl) (by kernel_rfl) (by kernel_rfl) (by kernel_rfl) rfl (yo_pure hT rfl) ?_)
          refine rw_done (by kernel_rfl) ?_
          (repeat (first | refine qw_then ?_ | refine cw_ret ?_))
          have h4' : decide (b.parents.length ≤ 64) = false := by simp at h4 ⊢; omega
          exact qw_sub (by repeat (first | exact trivial | refine ⟨rfl, ?_⟩)) (fin _ _ hx15 (by simp only [mayB, h4']; simp))
      · (refine rw_takeP 25 rfl rfl (by kernel_rfl) (by kernel_rfl) (by kernel_rfl) (by kernel_rfl) rfl (yo_off rfl rfl) ?_; refine rw_takeP 26 rfl rfl (by kernel_rfl) (by kernel_rfl) (by kernel_rfl) (by kernel_rfl) rfl (yo_off rfl rfl) ?_; refine rw_takeP 27 rfl rfl (by kernel_rfl) (by kernel_rfl) (by kernel_rfl) (by kernel_rfl) rfl (yo_off rfl rfl) ?_; refine rw_takeP 28 rfl rfl (by kernel_rfl) (by kernel_rfl) (by kernel_rfl) (by kernel_rfl) rfl (yo_off rfl rfl) ?_)
        (refine rw_takeP 29 rfl rfl (by kernel_rfl) (by kernel_rfl) (by kernel_rfl) (by kernel_rfl) rfl (yo_pure hT rfl) ?_; refine rw_takeP 30 rfl rfl (by kernel_rfl) (by kernel_rfl) (by kernel_rfl) (by kernel_rfl) rfl (yo_pure hT rfl) ?_)
        (refine rw_takeP 31 rfl rfl (by kernel_rfl) (by kernel_rfl) (by kernel_rfl) (by kernel_rfl) rfl (yo_off rfl rfl) ?_; refine rw_takeP 32 rfl rfl (by kernel_rfl) (by kernel_rfl) (by kernel_rfl) (by kernel_rfl) rfl (yo_off rfl rfl) ?_; refine rw_takeP 33 rfl rfl (by kernel_rfl) (by kernel_rfl) (by kernel_rfl) (by kernel_rfl) rfl (yo_off rfl rfl) ?_)
        (refine rw_takeP 34 rfl rfl (by kernel_rfl) (by kernel_rfl) (by kernel_rfl) (by kernel_rfl) rfl (yo_pure hT rfl) ?_; refine rw_takeP 35 rfl rfl (by kernel_rfl) (by kernel_rfl) (by kernel_rfl) (by kernel_rfl) rfl (yo_pure hT rfl) ?_)
        (refine rw_takeP 36 rfl rfl (by kernel_rfl) (by kernel_rfl) (by kernel_rfl) (by kernel_rfl) rfl (yo_off rfl rfl) ?_; refine rw_takeP 37 rfl rfl (by kernel_rfl) (by kernel_rfl) (by kernel_rfl) (by kernel_rfl) rfl (yo_off rfl rfl) ?_; refine rw_takeP 38 rfl rfl (by kernel_rfl) (by kernel_rfl) (by kernel_rfl) (by kernel_rfl) rfl (yo_off rfl rfl) ?_)
        (refine rw_takeP 39 rfl rfl (by kernel_rfl) (by kernel_rfl) (by kernel_rfl) (by kernel_rfl) rfl (yo_pure hT rfl) ?_; refine rw_takeP 40 rfl rfl (by kernel_rfl) (by kernel_rfl) (by kernel_rfl) (by kernel_rfl) rfl (yo_pure hT rfl) ?_)
        refine rw_done (by kernel_rfl) ?_
        (repeat (first | refine qw_then ?_ | refine cw_ret ?_))
        exact qw_sub (by repeat (first | exact trivial | refine ⟨rfl, ?_⟩)) (fin _ _ hx15 (by simp only [mayB, h3]; simp))
    · (refine rw_takeP 20 rfl rfl (by kernel_rfl) (by kernel_rfl) (by kernel_rfl) (by kernel_rfl) rfl (yo_off rfl rfl) ?_; refine rw_takeP 21 rfl rfl (by kernel_rfl) (by kernel_rfl) (by kernel_rfl) (by kernel_rfl) rfl (yo_off rfl rfl) ?_; refine rw_takeP 22 rfl rfl (by kernel_rfl) (by kernel_rfl) (by kernel_rfl) (by kernel_rfl) rfl (yo_off rfl rfl) ?_)
      (refine rw_takeP 23 rfl rfl (by kernel_rfl) (by kernel_rfl) (by kernel_rfl) (by kernel_rfl) rfl (yo_pure hT rfl) ?_; refine rw_takeP 24 rfl rfl (by kernel_rfl) (by kernel_rfl) (by kernel_rfl) (by kernel_rfl) rfl (yo_pure hT rfl) ?_)
      (refine rw_takeP 25 rfl rfl (by kernel_rfl) (by kernel_rfl) (by kernel_rfl) (by kernel_rfl) rfl (yo_off rfl rfl) ?_; refine rw_takeP 26 rfl rfl (by kernel_rfl) (by kernel_rfl) (by kernel_rfl) (by kernel_rfl) rfl (yo_off rfl rfl) ?_; refine rw_takeP 27 rfl rfl (by kernel_rfl) (by kernel_rfl) (by kernel_rfl) (by kernel_rfl) rfl (yo_off rfl rfl) ?_; refine rw_takeP 28 rfl rfl (by kernel_rfl) (by kernel_rfl) (by kernel_rfl) (by kernel_rfl) rfl (yo_off rfl rfl) ?_)
      (refine rw_takeP 29 rfl rfl (by kernel_rfl) (by kernel_rfl) (by kernel_rfl) (by kernel_rfl) rfl (yo_pure hT rfl) ?_; refine rw_takeP 30 rfl rfl (by kernel_rfl) (by kernel_rfl) (by kernel_rfl) (by kernel_rfl) rfl (yo_pure hT rfl) ?_)
      (refine rw_takeP 31 rfl rfl (by kernel_rfl) (by kernel_rfl) (by kernel_rfl) (by kernel_rfl) rfl (yo_off rfl rfl) ?_; refine rw_takeP 32 rfl rfl (by kernel_rfl) (by kernel_rfl) (by kernel_rfl) (by kernel_rfl) rfl (yo_off rfl rfl) ?_; refine rw_takeP 33 rfl rfl (by kernel_rfl) (by kernel_rfl) (by kernel_rfl) (by kernel_rfl) rfl (yo_off rfl rfl) ?_)
      (refine rw_takeP 34 rfl rfl (by kernel_rfl) (by kernel_rfl) (by kernel_rfl) (by kernel_rfl) rfl (yo_pure hT rfl) ?_; refine rw_takeP 35 rfl rfl (by kernel_rfl) (by kernel_rfl) (by kernel_rfl) (by kernel_rfl) rfl (yo_pure hT rfl) ?_)
      (refine rw_takeP 36 rfl rfl (by kernel_rfl) (by kernel_rfl) (by kernel_rfl) (by kernel_rfl) rfl (yo_off rfl rfl) ?_; refine rw_takeP 37 rfl rfl (by kernel_rfl) (by kernel_rfl) (by kernel_rfl) (by kernel_rfl) rfl (yo_off rfl rfl) ?_; refine rw_takeP 38 rfl rfl (by kernel_rfl) (by kernel_rfl) (by kernel_rfl) (by kernel_rfl) rfl (yo_off rfl rfl) ?_)
      (refine rw_takeP 39 rfl rfl (by kernel_rfl) (by kernel_rfl) (by kernel_rfl) (by kernel_rfl) rfl (yo_pure hT rfl) ?_; refine rw_takeP 40 rfl rfl (by kernel_rfl) (by kernel_rfl) (by kernel_rfl) (by kernel_rfl) rfl (yo_pure hT rfl) ?_)
      refine rw_done (by kernel_rfl) ?_
      (repeat (first | refine qw_then ?_ | refine cw_ret ?_))
      exact qw_sub (by repeat (first | exact trivial | refine ⟨rfl, ?_⟩)) (fin _ _ hx14 (by simp only [mayB, h2]; simp))
  · (refine rw_takeP 11 rfl rfl (by kernel_rfl) (by kernel_rfl) (by kernel_rfl) (by kernel_rfl) rfl (yo_off rfl rfl) ?_; refine rw_takeP 12 rfl rfl (by kernel_rfl) (by kernel_rfl) (by kernel_rfl) (by kernel_rfl) rfl (yo_off rfl rfl) ?_; refine rw_takeP 13 rfl rfl (by kernel_rfl) (by kernel_rfl) (by kernel_rfl) (by kernel_rfl) rfl (yo_off rfl rfl) ?_; refine rw_takeP 14 rfl rfl (by kernel_rfl) (by kernel_rfl) (by kernel_rfl) (by kernel_rfl) rfl (yo_off rfl rfl) ?_; refine rw_takeP 15 rfl rfl (by kernel_rfl) (by kernel_rfl) (by kernel_rfl) (by kernel_rfl) rfl (yo_off rfl rfl) ?_; refine rw_takeP 16 rfl rfl (by kernel_rfl) (by kernel_rfl) (by kernel_rfl) (by kernel_rfl) rfl (yo_off rfl rfl) ?_; refine rw_takeP 17 rfl rfl (by kernel_rfl) (by kernel_rfl) (by kernel_rfl) (by kernel_rfl) rfl (yo_off rfl rfl) ?_)
    (refine rw_takeP 18 rfl rfl (by kernel_rfl) (by kernel_rfl) (by kernel_rfl) (by kernel_rfl) rfl (yo_pure hT rfl) ?_; refine rw_takeP 19 rfl rfl (by kernel_rfl) (by kernel_rfl) (by kernel_rfl) (by kernel_rfl) rfl (yo_pure hT rfl) ?_)
    (refine rw_takeP 20 rfl rfl (by kernel_rfl) (by kernel_rfl) (by kernel_rfl) (by kernel_rfl) rfl (yo_off rfl rfl) ?_; refine rw_takeP 21 rfl rfl (by kernel_rfl) (by kernel_rfl) (by kernel_rfl) (by kernel_rfl) rfl (yo_off rfl rfl) ?_; refine rw_takeP 22 rfl rfl (by kernel_rfl) (by kernel_rfl) (by kernel_rfl) (by kernel_rfl) rfl (yo_off rfl rfl) ?_)
    (refine rw_takeP 23 rfl rfl (by kernel_rfl) (by kernel_rfl) (by kernel_rfl) (by kernel_rfl) rfl (yo_pure hT rfl) ?_; refine rw_takeP 24 rfl rfl (by kernel_rfl) (by kernel_rfl) (by kernel_rfl) (by kernel_rfl) rfl (yo_pure hT rfl) ?_)
    (refine rw_takeP 25 rfl rfl (by kernel_rfl) (by kernel_rfl) (by kernel_rfl) (by kernel_rfl) rfl (yo_off rfl rfl) ?_; refine rw_takeP 26 rfl rfl (by kernel_rfl) (by kernel_rfl) (by kernel_rfl) (by kernel_rfl) rfl (yo_off rfl rfl) ?_; refine rw_takeP 27 rfl rfl (by kernel_rfl) (by kernel_rfl) (by kernel_rfl) (by kernel_rfl) rfl (yo_off rfl rfl) ?_; refine rw_takeP 28 rfl rfl (by kernel_rfl) (by kernel_rfl) (by kernel_rfl) (by kernel_rfl) rfl (yo_off rfl rfl) ?_)
    (refine rw_takeP 29 rfl rfl (by kernel_rfl) (by kernel_rfl) (by kernel_rfl) (by kernel_rfl) rfl (yo_pure hT rfl) ?_; refine rw_takeP 30 rfl rfl (by kernel_rfl) (by kernel_rfl) (by kernel_rfl) (by kernel_rfl) rfl (yo_pure hT rfl) ?_)
    (refine rw_takeP 31 rfl rfl (by kernel_rfl) (by kernel_rfl) (by kernel_rfl) (by kernel_rfl) rfl (yo_off rfl rfl) ?_; refine rw_takeP 32 rfl rfl (by kernel_rfl) (by kernel_rfl) (by kernel_rfl) (by kernel_rfl) rfl (yo_off rfl rfl) ?_; refine rw_takeP 33 rfl rfl (by kernel_rfl) (by kernel_rfl) (by kernel_rfl) (by kernel_rfl) rfl (yo_off rfl rfl) ?_)
    (refine rw_takeP 34 rfl rfl (by kernel_rfl) (by kernel_rfl) (by kernel_rfl) (by kernel_rfl) rfl (yo_pure hT rfl) ?_; refine rw_takeP 35 rfl rfl (by kernel_rfl) (by kernel_rfl) (by kernel_rfl) (by kernel_rfl) rfl (yo_pure hT rfl) ?_)
    (refine rw_takeP 36 rfl rfl (by kernel_rfl) (by kernel_rfl) (by kernel_rfl) (by kernel_rfl) rfl (yo_off rfl rfl) ?_; refine rw_takeP 37 rfl rfl (by kernel_rfl) (by kernel_rfl) (by kernel_rfl) (by kernel_rfl) rfl (yo_off rfl rfl) ?_; refine rw_takeP 38 rfl rfl (by kernel_rfl) (by kernel_rfl) (by kernel_rfl) (by kernel_rfl) rfl (yo_off rfl rfl) ?_)
    (refine rw_takeP 39 rfl rfl (by kernel_rfl) (by kernel_rfl) (by kernel_rfl) (by kernel_rfl) rfl (yo_pure hT rfl) ?_; refine rw_takeP 40 rfl rfl (by kernel_rfl) (by kernel_rfl) (by kernel_rfl) (by kernel_rfl) rfl (yo_pure hT rfl) ?_)
    refine rw_done (by kernel_rfl) ?_
    (repeat (first | refine qw_then ?_ | refine cw_ret ?_))
    exact qw_sub (by repeat (first | exact trivial | refine ⟨rfl, ?_⟩)) (fin _ _ hx14 (by simp only [mayB, h1]; simp))
end Go.Proofs.YtnglkhnfmbnfeaaGreat
namespace Go.Proofs.YtnglkhnfmbnfeaaGreat
open Go Go.SK
section
variable {P : Program} {n : Nat} {fr : Fr} {w : World} {Q : Exit → Act → World → Prop} {ops : Array Oper} {rest : List Oper}
theorem lw_lookup_ok_none {d t e b : Nat} {z : Value} {es : List (ByteArray × Value)} {ks : ByteArray} {x y : Operand} {ty : TypeId} {ps : String} {af : Array Edge} (hM : MpT P t e z) (hx : ev n fr x = some (.map (some b))) (hy : ev n fr y = some (.string ks)) (hm : Mp w b es)
    (hg : mget es ks = none) (k : LW P ops Q rest n ((d, .tuple #[z, .bool false]) :: fr) w) :
    LW P ops Q ({ dst := some d, op := .lookup t x y true, type := ty, pos := ps, after := af, guard := none } :: rest) n fr w :=
  lw_lookup_ok hM hx hy hm (by rw [hg]; exact k)
theorem lw_lookup_ok_some {d t e b : Nat} {z v : Value} {es : List (ByteArray × Value)} {ks : ByteArray} {x y : Operand} {ty : TypeId} {ps : String} {af : Array Edge} (hM : MpT P t e z) (hx : ev n fr x = some (.map (some b))) (hy : ev n fr y = some (.string ks)) (hm : Mp w b es)
    (hg : mget es ks = some v) (k : LW P ops Q rest n ((d, .tuple #[v, .bool true]) :: fr) w) :
    LW P ops Q ({ dst := some d, op := .lookup t x y true, type := ty, pos := ps, after := af, guard := none } :: rest) n fr w :=
  lw_lookup_ok hM hx hy hm (by rw [hg]; exact k)
end
structure At (r : RegD) (gs : List GhostE) (n : ByteArray) (i : Nat) (x : EntD) (g : GhostE) : Prop where
  l : r.l[i]? = some x
  gi : gs[i]? = some g
  num : n = x.bill.number
  at_ : r.at? n = some x
  get : mget (mapOf r.l gs) n = some (.pointer (some ⟨g.e, 0, none⟩))
theorem mget_cons (k : ByteArray) (v : Value) (es : List (ByteArray × Value)) (n : ByteArray) : mget ((k, v) :: es) n = if n = k then some v else mget es n := by
  unfold mget
  by_cases h : n = k
  · simp [h]
  · simp [h, List.find?_cons]
theorem mapOf_cons (x : EntD) (g : GhostE) (l : List EntD) (gs : List GhostE) : mapOf (x :: l) (g :: gs) = (x.bill.number, .pointer (some ⟨g.e, 0, none⟩)) :: mapOf l gs := rfl
theorem at_cases' : ∀ (l : List EntD) (gs : List GhostE) (n : ByteArray), l.length = gs.length →
    ((l.find? fun e => decide (n = e.bill.number)) = none ∧ mget (mapOf l gs) n = none) ∨
    ∃ (i : Nat) (x : EntD) (g : GhostE), l[i]? = some x ∧ gs[i]? = some g ∧ n = x.bill.number ∧ (l.find? fun e => decide (n = e.bill.number)) = some x ∧ mget (mapOf l gs) n = some (.pointer (some ⟨g.e, 0, none⟩))
  | [], [], n, _ => .inl ⟨rfl, rfl⟩
  | [], _ :: _, _, h => by simp at h
  | _ :: _, [], _, h => by simp at h
  | x :: l, g :: gs, n, h => by
    rw [mapOf_cons, mget_cons]
    by_cases e : n = x.bill.number
    · exact .inr ⟨0, x, g, rfl, rfl, e, by simp [e], by simp [e]⟩
    · rcases at_cases' l gs n (by simpa using h) with ⟨h1, h2⟩ | ⟨i, y, g', h1, h2, h3, h4, h5⟩
      · exact .inl ⟨by simp [e, h1], by simp [e, h2]⟩
      · exact .inr ⟨i + 1, y, g', h1, h2, h3, by simp [e, h4], by simp [e, h5]⟩
theorem Rep.at {w : World} {p : Nat} {r : RegD} {m : Nat} {gs : List GhostE} (h : Rep w p r m gs) (n : ByteArray) :
    (r.at? n = none ∧ mget (mapOf r.l gs) n = none) ∨ ∃ i x g, At r gs n i x g := by
  rcases at_cases' r.l gs n h.len with h1 | ⟨i, x, g, h1, h2, h3, h4, h5⟩
  · exact .inl h1
  · exact .inr ⟨i, x, g, h1, h2, h3, h4, h5⟩
theorem encE_len {l : List EndD} : ∀ r ∈ l.map encE, r.length = 4 := by
  intro r hr; obtain ⟨x, _, rfl⟩ := List.mem_map.1 hr; rfl
theorem ChainOk.sl {w : World} {vc : Value} {l : List EndD} (h : ChainOk w vc l) {A : Nat → Prop} (hA : ∀ b, vc.ownBlock = some b → A b) : SlE A w vc l :=
  own_sl (by rwa [List.length_map]) encE_len hA
theorem three_cases {α : Type} {l : List α} (h : l.length = 3) : ∃ a b c, l = [a, b, c] := by
  match l, h with
  | [a, b, c], _ => exact ⟨a, b, c, rfl⟩
theorem entCells_paper {x : EntD} {g : GhostE} (h1 : x.ps.length = 3) (h2 : g.vcs.length = 3) {k : Nat} (hk : k < 3) : ∃ p vc, x.ps[k]? = some p ∧ g.vcs[k]? = some vc ∧
    (entCells x g)[10 + k * 3]? = some (.int .i64 p.state) ∧ (entCells x g)[10 + k * 3 + 1]? = some (.string p.holder) ∧ (entCells x g)[10 + k * 3 + 2]? = some vc := by
  obtain ⟨a, b, c, ha⟩ := three_cases h1
  obtain ⟨u, v, y, hu⟩ := three_cases h2
  have e : entCells x g = encB x.bill g.vb g.vp ++ .int .i64 x.state :: papCells [a, b, c] [u, v, y] := by rw [← ha, ← hu]; rfl
  rw [e, ha, hu]
  match k, hk with
  | 0, _ => exact ⟨a, u, rfl, rfl, rfl, rfl, rfl⟩
  | 1, _ => exact ⟨b, v, rfl, rfl, rfl, rfl, rfl⟩
  | 2, _ => exact ⟨c, y, rfl, rfl, rfl, rfl, rfl⟩
def RegD.stateOf (r : RegD) (n : ByteArray) : Int := match r.at? n with
  | none => -1
  | some e => e.state
section
variable {w : World} {p : Nat} {r : RegD} {m : Nat} {gs : List GhostE}
theorem reg_State (hR : Rep w p r m gs) (num : ByteArray) : Ret Tryz.prog 17 [.pointer (some ⟨p, 0, none⟩), .string num] w fun v w' => v = .int .i64 (r.stateOf num) ∧ w = w' := by
  refine ret_of Tryz.func17 Tryz.ntmps17 rfl rfl rfl ?_
  obtain ⟨es, hmp, hpm⟩ := hR.map
  (repeat (first | refine lw_pure hT rfl ?_ | refine lw_nil ?_ | refine cw_seq ?_ | refine cw_region ?_ | refine qw_then ?_))
  refine lw_load hT rfl rfl (v := .map (some m)) (hR.blk.cell 1) ?_
  (repeat (refine lw_pure hT rfl ?_))
  rcases hR.at num with ⟨h1, h2⟩ | ⟨i, x, g, hA⟩
  · refine lw_lookup_ok_none mp78 rfl rfl hmp ((hR.get hpm _).trans h2) ?_
    (repeat (first | refine lw_pure hT rfl ?_ | refine lw_nil ?_ | refine cw_seq ?_ | refine cw_region ?_ | refine qw_then ?_ | refine cw_ret ?_ | refine cw_skip ?_ | (refine cw_cond_f rfl ?_ ?_; focus with_reducible (first | rfl | exact Bool.not_false | exact Bool.not_true))))
    exact qw_ret rfl ⟨by simp [oneOr, RegD.stateOf, h1], rfl⟩
  · refine lw_lookup_ok_some mp78 rfl rfl hmp ((hR.get hpm _).trans hA.get) ?_
    (repeat (first | refine lw_pure hT rfl ?_ | refine lw_nil ?_ | refine cw_seq ?_ | refine cw_region ?_ | refine qw_then ?_ | (refine cw_cond_t rfl ?_ ?_; focus with_reducible (first | rfl | exact Bool.not_false | exact Bool.not_true))))
    refine lw_load hT rfl rfl (v := .int .i64 x.state) ((hR.ents i x g hA.l hA.gi).blk.cell 9) ?_
    (repeat (first | refine lw_pure hT rfl ?_ | refine lw_nil ?_ | refine qw_then ?_ | refine cw_ret ?_ | refine qw_then_ret ?_))
    exact qw_ret rfl ⟨by simp [oneOr, RegD.stateOf, hA.at_], rfl⟩
def PapR (r : RegD) (gs : List GhostE) (num : ByteArray) (k : Int) (v : Value) : Prop :=
  (v = .tuple #[.pointer none, .pointer none] ∧ (r.at? num = none ∨ ¬ (0 ≤ k ∧ k < 3))) ∨
  ∃ i x g j, At r gs num i x g ∧ k = ((j : Nat) : Int) ∧ j < 3 ∧ v = .tuple #[.pointer (some ⟨g.e, 0, none⟩), .pointer (some ⟨g.e, 10 + j * 3, none⟩)]
end
end Go.Proofs.YtnglkhnfmbnfeaaGreat
namespace Go.Proofs.YtnglkhnfmbnfeaaGreat
open Go Go.SK
def RegD.pap (r : RegD) (n : ByteArray) (k : Int) : Option (EntD × PapD) := match r.at? n with
  | none => none
  | some e => if 0 ≤ k ∧ k < 3 then some (e, e.ps.getD k.toNat default) else none
section
variable {w : World} {p : Nat} {r : RegD} {m : Nat} {gs : List GhostE}
theorem PapR.cases (hR : Rep w p r m gs) {num : ByteArray} {k : Int} {v : Value} (h : PapR r gs num k v) :
    (v = .tuple #[.pointer none, .pointer none] ∧ r.pap num k = none) ∨
    ∃ i x g j q vc, At r gs num i x g ∧ k = ((j : Nat) : Int) ∧ j < 3 ∧ v = .tuple #[.pointer (some ⟨g.e, 0, none⟩), .pointer (some ⟨g.e, 10 + j * 3, none⟩)] ∧ r.pap num k = some (x, q) ∧ x.ps[j]? = some q ∧ g.vcs[j]? = some vc ∧
      (entCells x g)[10 + j * 3]? = some (.int .i64 q.state) ∧ (entCells x g)[10 + j * 3 + 1]? = some (.string q.holder) ∧ (entCells x g)[10 + j * 3 + 2]? = some vc ∧ EntOk w x g := by
  rcases h with ⟨rfl, h⟩ | ⟨i, x, g, j, hA, rfl, hj, rfl⟩
  · refine .inl ⟨rfl, ?_⟩
    unfold RegD.pap
    rcases h with h | h
    · rw [h]
    · cases r.at? num with
      | none => rfl
      | some e => simp only [if_neg h]
  · have hE := hR.ents i x g hA.l hA.gi
    obtain ⟨q, vc, h1, h2, h3, h4, h5⟩ := entCells_paper hE.three hE.three' hj
    refine .inr ⟨i, x, g, j, q, vc, hA, rfl, hj, rfl, ?_, h1, h2, h3, h4, h5, hE⟩
    unfold RegD.pap
    rw [hA.at_]
    have : 0 ≤ (j : Int) ∧ (j : Int) < 3 := by omega
    simp only [if_pos this, Int.toNat_natCast]
    simp [List.getD_eq_getElem?_getD, h1]
def RegD.Small (r : RegD) : Prop := ∀ e ∈ r.l, (∀ q ∈ e.ps, q.chain.length ≤ 1000000) ∧ e.bill.boxes.length ≤ 1000000 ∧ e.bill.parents.length ≤ 1000000
end
end Go.Proofs.YtnglkhnfmbnfeaaGreat
namespace Go.Proofs.YtnglkhnfmbnfeaaGreat
open Go Go.SK
theorem reg_New (w : World) (c : ByteArray) : Ret Tryz.prog 31 [.string c] w fun v w' => ∃ p m, v = .pointer (some ⟨p, 0, none⟩) ∧ Rep w' p ⟨c, []⟩ m [] ∧ w.heap.size ≤ p ∧ w.heap.size ≤ m ∧ Ex w w' := by
  refine ret_of Tryz.func31 Tryz.ntmps31 rfl rfl rfl ?_
  (repeat (first | refine lw_pure hT rfl ?_ | refine lw_nil ?_ | refine cw_seq ?_ | refine cw_region ?_ | refine qw_then ?_))
  refine lw_makeMap ?_
  rintro m w1 rfl hM1 hx1 hs1
  skip
  refine lw_build bt80 rfl ?_
  skip
  refine lw_box rfl ?_
  rintro p w2 rfl hb2 hx2 hs2
  (repeat (first | refine lw_pure hT rfl ?_ | refine lw_nil ?_ | refine qw_then ?_ | refine cw_ret ?_))
  refine qw_ret rfl ⟨_, _, rfl, ⟨hb2, ⟨_, hM1.ex hx2, .refl _⟩, ?_, rfl, ?_, ?_, ?_, ?_, by omega⟩, by omega, by omega, hx1.trans hx2⟩ <;> (try unfold RegD.Nd) <;> intros <;> simp_all
theorem reg_own {A : Nat → Prop} {b : BillD} {vb vp : Value} (w : World) (hB : SlS A w vb b.boxes) (hP : SlS A w vp b.parents) (h1 : b.boxes.length ≤ 1000000) (h2 : b.parents.length ≤ 1000000) :
    Ret Tryz.prog 35 [.agg ⟨encB b vb vp⟩] w fun v w' => ∃ ub up, v = .agg ⟨encB b ub up⟩ ∧ w'.ownsRow w.heap.size 9 1 ub b.boxes.length (b.boxes.map Value.string) ∧
      w'.ownsRow w.heap.size 9 1 up b.parents.length (b.parents.map Value.string) ∧ Ex w w' := by
  refine ret_of Tryz.func35 Tryz.ntmps35 rfl rfl rfl ?_
  (repeat (first | refine cw_seq ?_ | refine cw_region ?_))
  refine lw_box rfl ?_
  intro bb w1 hbb hb1 hx1 hs1
  replace hb1 : Blk w1 bb (encB b vb vp) 33 := hb1
  skip
  refine lw_alloc z33 ?_
  intro bc w2 hbc hb2 hx2 hs2
  have hb12 := hb1.ex hx2
  (repeat (first | refine lw_nil ?_ | refine cw_seq ?_ | refine qw_then ?_))
  refine cw_draw hM (fun w' => Ex w2 w') [7, 9] rfl rfl (by repeat with_reducible (first | refine nop_then ?_ | refine nop_block ?_ | exact nop_body)) (fun w3 hx3 _ => ⟨hx3, ?_⟩)
  (refine rw_takeP 0 rfl rfl (by kernel_rfl) (by kernel_rfl) (by kernel_rfl) (by kernel_rfl) rfl (yo_pure hT rfl) ?_)
  refine rw_take 1 rfl rfl (by kernel_rfl) (by kernel_rfl) (by kernel_rfl) (by kernel_rfl) rfl (yo_load hT rfl rfl (fun w' hS => Ex.cell hS (hb12.cell 5))) ?_
  (refine rw_takeP 3 rfl rfl (by kernel_rfl) (by kernel_rfl) (by kernel_rfl) (by kernel_rfl) rfl (yo_pure hT rfl) ?_)
  refine rw_take 4 rfl rfl (by kernel_rfl) (by kernel_rfl) (by kernel_rfl) (by kernel_rfl) rfl (yo_load hT rfl rfl (fun w' hS => Ex.cell hS (hb12.cell 6))) ?_
  refine rw_one 2 rfl (by kernel_rfl) rfl (fun hcl => ?_)
  skip
  refine lw_call hT rfl rfl (clone_str w3 (hB.ex ((hx1.trans hx2).trans hx3)) h1) ?_
  rintro ub w4 ⟨hu4, hx4⟩
  (repeat (refine lw_nil ?_))
  refine qw_rw (by repeat with_reducible (first | refine nop_then ?_ | refine nop_block ?_ | exact nop_body)) hcl (fun _ => hx3.trans hx4) ?_
  (refine rw_takeP 6 rfl rfl (by kernel_rfl) (by kernel_rfl) (by kernel_rfl) (by kernel_rfl) rfl (yo_pure hT rfl) ?_)
  refine rw_one 5 rfl (by kernel_rfl) rfl (fun hcl => ?_)
  skip
  refine lw_call hT rfl rfl (clone_str w4 (hP.ex (((hx1.trans hx2).trans hx3).trans hx4)) h2) ?_
  rintro up w5 ⟨hu5, hx5⟩
  (repeat (refine lw_nil ?_))
  refine qw_rw (by repeat with_reducible (first | refine nop_then ?_ | refine nop_block ?_ | exact nop_body)) hcl (fun _ => (hx3.trans hx4).trans hx5) ?_
  refine rw_one 7 rfl (by kernel_rfl) rfl (fun hcl => ?_)
  skip
  have hx15 : Ex w1 w5 := ((hx2.trans hx3).trans hx4).trans hx5
  have hx25 : Ex w2 w5 := ((hx3).trans hx4).trans hx5
  have hub : ub.oneCell' = true := own_one hu4
  have hup : up.oneCell' = true := own_one hu5
  refine lw_store (size := 1) hT rfl rfl rfl hub (hb1.ex hx15) (show (5 : Nat) < 9 by decide) ?_
  intro w6 hb6 hx6 hs6
  (repeat (refine lw_nil ?_))
  refine qw_rw (by repeat with_reducible (first | refine nop_then ?_ | refine nop_block ?_ | exact nop_body)) hcl (fun h => absurd h (by decide)) ?_
  (refine rw_takeP 8 rfl rfl (by kernel_rfl) (by kernel_rfl) (by kernel_rfl) (by kernel_rfl) rfl (yo_pure hT rfl) ?_)
  refine rw_one 9 rfl (by kernel_rfl) rfl (fun hcl => ?_)
  skip
  refine lw_store (size := 1) hT rfl rfl rfl hup hb6 (show (6 : Nat) < 9 by decide) ?_
  intro w7 hb7 hx7 hs7
  (repeat (refine lw_nil ?_))
  refine qw_rw (by repeat with_reducible (first | refine nop_then ?_ | refine nop_block ?_ | exact nop_body)) hcl (fun h => absurd h (by decide)) ?_
  refine rw_done (by kernel_rfl) ?_
  (repeat (first | refine cw_seq ?_ | refine cw_region ?_ | refine qw_then ?_))
  have hl1 := hx1.size
  have hl4 := hx4.size
  have hl3 := hx3.size
  have hl5 := hx5.size
  have hne : bc ≠ bb := by omega
  refine lw_load_agg hT rfl rfl rfl (vs := encB b ub up) ((hb7.rd 0 9)) ?_
  skip
  refine lw_store_agg hT rfl rfl rfl rfl ?_ (((hb2.ex hx25).ext hx6 hne).ext hx7 hne) (show (9 : Nat) ≤ 9 by decide) ?_
  · intro v hv
    simp [encB] at hv
    rcases hv with rfl | rfl | rfl | rfl | rfl | rfl | rfl | rfl | rfl <;> first | rfl | assumption
  intro w8 hb8 hx8 hs8
  (repeat (first | refine lw_nil ?_ | refine qw_then ?_ | refine cw_ret ?_))
  have hu7 := own_ext (own_ext (own_ex hu4 hx5) hx6 (fun k hk e => by have := own_base hu4 hk; omega)) hx7 (fun k hk e => by have := own_base hu4 hk; omega)
  have hp7 := own_ext (own_ext hu5 hx6 (fun k hk e => by have := own_base hu5 hk; omega)) hx7 (fun k hk e => by have := own_base hu5 hk; omega)
  refine qw_ret_cell hT rfl rfl rfl rfl (vs := encB b ub up) (hb8.rd 0 9) rfl ⟨ub, up, rfl, ?_, ?_, ?_⟩
  · exact own_mono (own_ext hu7 hx8 (fun k hk e => by have := own_base hu4 hk; omega)) (by omega)
  · exact own_mono (own_ext hp7 hx8 (fun k hk e => by have := own_base hu5 hk; omega)) (by omega)
  · exact (((hx1.trans hx15).up_new hx6 (fun i hi => by omega)).up_new hx7 (fun i hi => by omega)).up_new hx8 (fun i hi => by omega)
end Go.Proofs.YtnglkhnfmbnfeaaGreat
namespace Go.Proofs.YtnglkhnfmbnfeaaGreat
open Go Go.SK
def zeroB : BillD := ⟨⟨#[]⟩, ⟨#[]⟩, ⟨#[]⟩, ⟨#[]⟩, ⟨#[]⟩, [], [], 0, false⟩
section
variable {w : World} {p : Nat} {r : RegD} {m : Nat} {gs : List GhostE}
def GetR (r : RegD) (n : ByteArray) (w w' : World) (v : Value) : Prop :=
  match r.at? n with
  | none => v = .tuple #[.agg ⟨encB zeroB (.slice none 0 0) (.slice none 0 0)⟩, .bool false]
  | some x => ∃ ub up, v = .tuple #[.agg ⟨encB x.bill ub up⟩, .bool true] ∧ w'.ownsRow w.heap.size 9 1 ub x.bill.boxes.length (x.bill.boxes.map Value.string) ∧ w'.ownsRow w.heap.size 9 1 up x.bill.parents.length (x.bill.parents.map Value.string)
theorem reg_Get (hR : Rep w p r m gs) (hs : r.Small) (num : ByteArray) : Ret Tryz.prog 13 [.pointer (some ⟨p, 0, none⟩), .string num] w fun v w' => GetR r num w w' v ∧ Ex w w' := by
  refine ret_of Tryz.func13 Tryz.ntmps13 rfl rfl rfl ?_
  obtain ⟨es, hmp, hpm⟩ := hR.map
  (repeat (first | refine cw_seq ?_ | refine cw_region ?_))
  refine lw_alloc z33 ?_
  intro bc w2 hbc hb2 hx2 hs2
  (repeat (first | refine lw_pure hT rfl ?_ | refine lw_nil ?_ | refine cw_seq ?_ | refine cw_region ?_ | refine qw_then ?_))
  refine lw_load hT rfl rfl (v := .map (some m)) (Ex.cell hx2 (hR.blk.cell 1)) ?_
  (repeat (refine lw_pure hT rfl ?_))
  rcases hR.at num with ⟨h1, h2⟩ | ⟨i, x, g, hA⟩
  · refine lw_lookup_ok_none mp78 rfl rfl (hmp.ex hx2) ((hR.get hpm _).trans h2) ?_
    (repeat (first | refine lw_pure hT rfl ?_ | refine lw_nil ?_ | refine cw_seq ?_ | refine cw_region ?_ | refine qw_then ?_ | (refine cw_cond_t rfl ?_ ?_; focus with_reducible (first | rfl | exact Bool.not_false | exact Bool.not_true))))
    refine lw_build bt33 rfl ?_
    skip
    refine lw_store_agg hT rfl rfl rfl rfl ?_ hb2 (show (9 : Nat) ≤ 9 by decide) ?_
    · intro v hv
      simp at hv
      rcases hv with rfl | rfl | rfl | rfl <;> rfl
    intro w3 hb3 hx3 hs3
    (repeat (first | refine lw_pure hT rfl ?_ | refine lw_nil ?_ | refine qw_then ?_ | refine cw_ret ?_ | refine qw_then_ret ?_))
    refine qw_ret_cell hT rfl rfl rfl rfl (vs := encB zeroB (.slice none 0 0) (.slice none 0 0)) (hb3.rd 0 9) rfl ⟨?_, hx2.up_new hx3 (fun i hi => by omega)⟩
    simp only [GetR, h1]; rfl
  · refine lw_lookup_ok_some mp78 rfl rfl (hmp.ex hx2) ((hR.get hpm _).trans hA.get) ?_
    (repeat (first | refine lw_pure hT rfl ?_ | refine lw_nil ?_ | refine cw_seq ?_ | refine cw_region ?_ | refine qw_then ?_ | refine cw_skip ?_ | (refine cw_cond_f rfl ?_ ?_; focus with_reducible (first | rfl | exact Bool.not_false | exact Bool.not_true))))
    have hE := hR.ents i x g hA.l hA.gi
    have hsm := hs x (List.mem_of_getElem? hA.l)
    refine lw_load_agg hT rfl rfl rfl (vs := encB x.bill g.vb g.vp) ((hE.blk.ex hx2).rd 0 9) ?_
    skip
    refine lw_call hT rfl rfl (reg_own w2 (hE.boxes.ex hx2) (hE.parents.ex hx2) hsm.2.1 hsm.2.2) ?_
    rintro _ w3 ⟨ub, up, rfl, hu, hp, hx3⟩
    skip
    refine lw_store_agg hT rfl rfl rfl rfl ?_ (hb2.ex hx3) (show (9 : Nat) ≤ 9 by decide) ?_
    · intro v hv
      simp [encB] at hv
      have := own_one hu
      have := own_one hp
      rcases hv with rfl | rfl | rfl | rfl | rfl | rfl | rfl | rfl | rfl <;> first | rfl | assumption
    intro w4 hb4 hx4 hs4
    (repeat (first | refine lw_pure hT rfl ?_ | refine lw_nil ?_ | refine qw_then ?_ | refine cw_ret ?_))
    have hl2 := hx2.size
    refine qw_ret_cell hT rfl rfl rfl rfl (vs := encB x.bill ub up) (hb4.rd 0 9) rfl ⟨?_, (hx2.trans hx3).up_new hx4 (fun i hi => by omega)⟩
    simp only [GetR, hA.at_]
    have hb2l := hb2.lt
    exact ⟨ub, up, rfl, own_mono (own_ext hu hx4 (fun k hk e => by have := own_base hu hk; omega)) hl2, own_mono (own_ext hp hx4 (fun k hk e => by have := own_base hp hk; omega)) hl2⟩
def papRow (q : PapD × Value) : List Value := [.int .i64 q.1.state, .string q.1.holder, q.2]
end
end Go.Proofs.YtnglkhnfmbnfeaaGreat
namespace Go.Proofs.YtnglkhnfmbnfeaaGreat
open Go Go.SK
theorem filter_lt {α : Type} {p q : α → Bool} {j : α} (h : ∀ i, q i = true → p i = true) (hp : p j = true) (hq : q j = false) : ∀ {l : List α}, j ∈ l → (l.filter q).length < (l.filter p).length
  | a :: l, hj => by
    have hle : ∀ l : List α, (l.filter q).length ≤ (l.filter p).length := by
      intro l
      induction l with
      | nil => exact Nat.le_refl _
      | cons b l ih =>
        cases hb : q b with
        | true => simp [hb, h b hb]; exact ih
        | false => cases hc : p b <;> simp [hb, hc] <;> omega
    rcases List.mem_cons.1 hj with rfl | hj
    · simp [hp, hq]; have := hle l; omega
    · have := filter_lt h hp hq hj
      cases hb : q a with
      | true => simp [hb, h a hb]; exact this
      | false => cases hc : p a <;> simp [hb, hc] <;> omega
def left (n : Nat) (seen : List Nat) : Nat := ((List.range n).filter fun i => decide (i ∉ seen)).length
theorem left_lt {n j : Nat} {seen : List Nat} (hj : j < n) (hn : j ∉ seen) : left n (seen ++ [j]) < left n seen := by
  refine filter_lt (j := j) ?_ (by simpa using hn) (by simp) (by simpa using hj)
  intro i; simp; intro h _; exact h
theorem mapOf_get {l : List EntD} {gs : List GhostE} {j : Nat} {e : ByteArray × Value} (h : (mapOf l gs)[j]? = some e) : ∃ x g, l[j]? = some x ∧ gs[j]? = some g ∧ e = (x.bill.number, .pointer (some ⟨g.e, 0, none⟩)) := by
  simp only [mapOf, List.getElem?_map, Option.map_eq_some_iff, List.getElem?_zip_eq_some] at h
  obtain ⟨⟨x, g⟩, ⟨h1, h2⟩, rfl⟩ := h
  exact ⟨x, g, h1, h2, rfl⟩
theorem mapOf_length {l : List EntD} {gs : List GhostE} (h : l.length = gs.length) : (mapOf l gs).length = l.length := by simp [mapOf, h]
def BoxR (r : RegD) (x : ByteArray) (v : Value) : Prop :=
  (v = .tuple #[.string ⟨#[]⟩, .bool false] ∧ r.boxed x = false) ∨ ∃ e ∈ r.l, e.has x = true ∧ v = .tuple #[.string e.bill.number, .bool true]
section
variable {w : World} {p : Nat} {r : RegD} {m : Nat} {gs : List GhostE}
theorem reg_Box (hR : Rep w p r m gs) (x : ByteArray) : Ret Tryz.prog 59 [.pointer (some ⟨p, 0, none⟩), .string x] w fun v w' => BoxR r x v ∧ Ex w w' := by
  obtain ⟨es, hmp, hpm⟩ := hR.map
  refine ret_of Tryz.func59 Tryz.ntmps59 rfl rfl rfl ?_
  (repeat (first | refine lw_pure hT rfl ?_ | refine lw_nil ?_ | refine cw_seq ?_ | refine cw_region ?_ | refine qw_then ?_))
  refine lw_load hT rfl rfl (v := .map (some m)) (hR.blk.cell 1) ?_
  skip
  refine lw_range mp78 rfl hmp ?_
  intro bi w1 hbi hI1 hx1 hs1
  have hml := hmp.lt
  (repeat (first | refine lw_nil ?_ | refine qw_then ?_ | refine cw_block ?_))
  refine cw_loop (fun seen : List Nat => [(1, .string x), (12, .pointer (some ⟨bi, 0, none⟩))])
    (fun seen w' => Ex w w' ∧ Itr w' bi m es.length seen ∧ (∀ j ∈ seen, j < es.length) ∧ ∀ (i j : Nat) e g, j ∈ seen → r.l[i]? = some e → gs[i]? = some g → es[j]? = some (e.bill.number, .pointer (some ⟨g.e, 0, none⟩)) → e.has x = false) (fun seen => left es.length seen) [] (by repeat (first | exact trivial | refine ⟨rfl, ?_⟩))
    ⟨hx1, hI1, by simp, by simp⟩ ?_
  rintro seen w2 ⟨hx2, hI2, hlt, hno⟩
  (repeat (first | refine cw_seq ?_ | refine cw_region ?_))
  refine lw_next rfl (hmp.ex hx2) hI2 hlt (fun hall => ?_) ?_
  · (repeat (first | refine lw_pure hT rfl ?_ | refine lw_nil ?_ | refine cw_seq ?_ | refine cw_region ?_ | refine qw_then ?_ | refine cw_ret ?_ | refine cw_exit ?_ | refine qw_block_exit ?_ | refine qw_then_exit ?_ | (refine cw_cond_f rfl ?_ ?_; focus with_reducible (first | rfl | exact Bool.not_false | exact Bool.not_true))))
    refine qw_ret rfl ⟨.inl ⟨rfl, ?_⟩, hx2⟩
    simp only [RegD.boxed, List.any_eq_false, Bool.not_eq_true]
    intro e he
    obtain ⟨i, hi⟩ := List.getElem?_of_mem he
    have hil := (List.getElem?_eq_some_iff.1 hi).1
    have hig : gs[i]? = some (gs[i]'(hR.len ▸ hil)) := List.getElem?_eq_getElem _
    have hin : (e.bill.number, Value.pointer (some ⟨(gs[i]'(hR.len ▸ hil)).e, 0, none⟩)) ∈ mapOf r.l gs := by
      refine List.mem_map.2 ⟨(e, gs[i]'(hR.len ▸ hil)), List.mem_of_getElem? (i := i) ?_, rfl⟩
      rw [List.getElem?_zip_eq_some]; exact ⟨hi, hig⟩
    obtain ⟨j, hj⟩ := List.getElem?_of_mem (hpm.mem_iff.2 hin)
    exact hno i j e _ (hall j (List.getElem?_eq_some_iff.1 hj).1) hi hig hj
  · intro j e w3 hj hjs hI3 hx3 hs3 hent
    obtain ⟨i, hi⟩ := List.getElem?_of_mem (hpm.mem_iff.1 (List.mem_of_getElem? hj))
    obtain ⟨y, g, h1, h2, rfl⟩ := mapOf_get hi
    have hjl := (List.getElem?_eq_some_iff.1 hj).1
    have hE := hR.ents i y g h1 h2
    have hx13 : Ex w w3 := hx2.up_new hx3 (fun i hi => by omega)
    have step : y.has x = false → ∀ (i' j' : Nat) e g', j' ∈ seen ++ [j] → r.l[i']? = some e → gs[i']? = some g' → es[j']? = some (e.bill.number, .pointer (some ⟨g'.e, 0, none⟩)) → e.has x = false := by
      intro hy i' j' e g' hk he hg' hee
      simp at hk
      rcases hk with hk | rfl
      · exact hno i' j' e g' hk he hg' hee
      · rw [hj] at hee
        have hnum : y.bill.number = e.bill.number := congrArg Prod.fst (Option.some.inj hee)
        have := hR.nd i i' y e h1 he hnum
        subst this
        rw [h1] at he; cases he; exact hy
    have bnd : ∀ k ∈ seen ++ [j], k < es.length := by
      intro k hk; simp at hk; exact hk.elim (fun hk => hlt k hk) (fun e => by subst e; exact hjl)
    (repeat (first | refine lw_pure hT rfl ?_ | refine lw_nil ?_ | refine cw_seq ?_ | refine cw_region ?_ | refine qw_then ?_ | refine cw_skip ?_ | refine cw_block ?_ | (refine cw_cond_t rfl ?_ ?_; focus with_reducible (first | rfl | exact Bool.not_false | exact Bool.not_true))))
    refine lw_entry rfl hent ?_
    (repeat (first | refine lw_pure hT rfl ?_ | refine lw_nil ?_ | refine cw_seq ?_ | refine cw_region ?_ | refine qw_then ?_))
    refine lw_load hT rfl rfl (v := .int .i64 y.state) (Ex.cell hx13 (hE.blk.cell 9)) ?_
    (repeat (refine lw_pure hT rfl ?_))
    refine lw_guard rfl (fun h => ?_) (fun h => ?_)
    · (repeat (first | refine lw_pure hT rfl ?_ | (refine lw_gon_t rfl ?_ ?_; focus with_reducible (first | rfl | exact Bool.not_false | exact Bool.not_true))))
      refine lw_load hT rfl rfl (v := g.vb) (Ex.cell hx13 (hE.blk.cell 5)) ?_
      (repeat (first | refine lw_pure hT rfl ?_ | (refine lw_gon_t rfl ?_ ?_; focus with_reducible (first | rfl | exact Bool.not_false | exact Bool.not_true))))
      refine lw_call hT rfl rfl (cnt_str x w3 (hE.boxes.ex hx13)) ?_
      rintro _ _ ⟨rfl, rfl⟩
      (repeat (first | refine lw_pure hT rfl ?_ | refine lw_nil ?_ | refine qw_then ?_))
      refine cw_cond rfl (fun h' => ?_) (fun h' => ?_)
      · (repeat (first | refine lw_pure hT rfl ?_ | refine lw_nil ?_ | refine cw_seq ?_ | refine cw_region ?_ | refine qw_then ?_ | refine cw_ret ?_ | refine qw_then_ret ?_ | refine qw_block_ret ?_))
        exact qw_ret rfl ⟨.inr ⟨y, List.mem_of_getElem? h1, by simp only [EntD.has, h, h', Bool.true_and], rfl⟩, hx13⟩
      · (repeat (first | refine cw_skip ?_ | refine qw_block ?_))
        exact qw_round (seen ++ [j]) (by repeat (first | exact trivial | refine ⟨rfl, ?_⟩)) ⟨hx13, hI3, bnd, step (by simp only [EntD.has, h', Bool.and_false])⟩ (left_lt hjl hjs)
    · (repeat (first | refine lw_pure hT rfl ?_ | refine lw_nil ?_ | refine qw_then ?_ | refine cw_skip ?_ | (refine lw_goff_f rfl ?_ ?_; focus with_reducible (first | rfl | exact Bool.not_false | exact Bool.not_true)) | refine qw_block ?_ | (refine cw_cond_f rfl ?_ ?_; focus with_reducible (first | rfl | exact Bool.not_false | exact Bool.not_true))))
      exact qw_round (seen ++ [j]) (by repeat (first | exact trivial | refine ⟨rfl, ?_⟩)) ⟨hx13, hI3, bnd, step (by simp only [EntD.has, h, Bool.false_and])⟩ (left_lt hjl hjs)
end
end Go.Proofs.YtnglkhnfmbnfeaaGreat
namespace Go.Proofs.YtnglkhnfmbnfeaaGreat
open Go Go.SK
def chosenB (index : Int) (k : Nat) : Bool := decide (index = -1) || decide (index = (k : Int))
theorem ixs_eq (index : Int) : (List.range 3).filter (chosenB index) = ixs index := by
  unfold ixs
  have e : List.range 3 = [0, 1, 2] := rfl
  rw [e]
  by_cases h : index = -1
  · subst h; rfl
  · by_cases h0 : index = 0
    · subst h0; rfl
    · by_cases h1 : index = 1
      · subst h1; rfl
      · by_cases h2 : index = 2
        · subst h2; rfl
        · have : ∀ k : Nat, k < 3 → chosenB index k = false := fun k hk => by simp [chosenB, h]; omega
          simp [h, h0, h1, h2, this]
theorem ixs_lt {index : Int} {k : Nat} (h : k ∈ ixs index) : k < 3 := by
  rw [← ixs_eq] at h; simp at h; omega
def ptrP (e k : Nat) : Value := .pointer (some ⟨e, 10 + k * 3, none⟩)
theorem reg_chosen (w : World) (e : Nat) (index : Int) : Ret Tryz.prog 109 [.pointer (some ⟨e, 0, none⟩), .int .i64 index] w fun v w' =>
    w'.ownsRow w.heap.size 137 1 v (ixs index).length ((ixs index).map (ptrP e)) ∧ Ex w w' := by
  refine ret_of Tryz.func109 Tryz.ntmps109 rfl rfl rfl ?_
  (repeat (first | refine lw_pure hT rfl ?_ | refine lw_nil ?_ | refine cw_seq ?_ | refine cw_region ?_ | refine qw_then ?_ | refine cw_block ?_))
  refine cw_loop (α := Nat × Value) (fun s => [(0, .pointer (some ⟨e, 0, none⟩)), (1, .int .i64 index), (7, .int .i64 (s.1 : Nat)), (5, s.2)])
    (fun s w' => Ex w w' ∧ s.1 ≤ 3 ∧ w'.ownsRow w.heap.size 137 1 s.2 ((List.range s.1).filter (chosenB index)).length (((List.range s.1).filter (chosenB index)).map (ptrP e))) (fun s => 3 - s.1) (0, .slice none 0 0) (by repeat (first | exact trivial | refine ⟨rfl, ?_⟩)) ⟨Ext.refl _ _, by omega, World.ownsRow_nil _ _ _ _⟩ ?_
  rintro ⟨j, vo⟩ w1 ⟨hx1, hj, ho⟩
  dsimp only at hx1 hj ho
  (repeat (first | refine lw_pure hT rfl ?_ | refine lw_nil ?_ | refine cw_seq ?_ | refine cw_region ?_ | refine qw_then ?_))
  have hl1 := hx1.size
  refine cw_cond rfl (fun h => ?_) (fun h => ?_)
  · have hlt : j < 3 := by simp at h; omega
    have no : chosenB index j = false → (List.range (j + 1)).filter (chosenB index) = (List.range j).filter (chosenB index) := fun h => by simp [List.range_succ, h]
    have yes : chosenB index j = true → (List.range (j + 1)).filter (chosenB index) = (List.range j).filter (chosenB index) ++ [j] := fun h => by simp [List.range_succ, h]
    have hlen : ((List.range j).filter (chosenB index)).length ≤ 3 := Nat.le_trans (List.length_filter_le _ _) (by simp; omega)
    (repeat (first | refine lw_pure hT rfl ?_ | refine lw_nil ?_ | refine cw_seq ?_ | refine cw_region ?_ | refine qw_then ?_ | refine cw_skip ?_ | refine cw_block ?_))
    refine lw_guard rfl (fun h1 => ?_) (fun h1 => ?_)
    · have hc : chosenB index j = true := by simp at h1; simp [chosenB, h1]
      (repeat (first | refine lw_pure hT rfl ?_ | refine lw_nil ?_ | refine cw_region ?_ | refine qw_then ?_ | (refine lw_goff_t rfl ?_ ?_; focus with_reducible (first | rfl | exact Bool.not_false | exact Bool.not_true)) | (refine cw_cond_t rfl ?_ ?_; focus with_reducible (first | rfl | exact Bool.not_false | exact Bool.not_true))))
      refine lw_index_arr hT rfl rfl rfl j rfl hlt ?_
      skip
      refine lw_buildSlice sl132 rfl rfl rfl ?_
      intro bo w4 hbo hb4 hx4 hs4
      replace hb4 : Blk w4 bo [ptrP e j] 137 := hb4
      skip
      have ho4 := own_ex ho hx4
      refine lw_append sl132 (by decide) rfl ho4 rfl (hb4.rd 0 1) rfl (by intro u hu; simp at hu; subst hu; rfl) (by unfold maxLen; omega) (by omega) (by omega) ?_
      intro v' w5 k1 k2 k3 k4
      (repeat (first | (refine lw_add rfl rfl ?_ ?_ ?_; iterate 2 omega) | refine lw_pure hT rfl ?_ | refine lw_nil ?_ | refine cw_region ?_ | refine qw_then ?_ | refine qw_block ?_))
      refine qw_round (α := Nat × Value) (j + 1, v') (by repeat (first | exact trivial | refine ⟨rfl, ?_⟩)) ⟨?_, by omega, ?_⟩ (by simp; omega)
      · refine (hx1.trans hx4).trans' k2 (fun _ _ f => f.elim) (fun i hi g => ?_)
        have := (own_base ho4 g.symm).1
        omega
      · rw [yes hc, List.length_append, List.map_append]; exact k1
    · (repeat (first | refine lw_pure hT rfl ?_ | refine lw_nil ?_ | refine qw_then ?_ | (refine lw_gon_f rfl ?_ ?_; focus with_reducible (first | rfl | exact Bool.not_false | exact Bool.not_true))))
      refine cw_cond rfl (fun h2 => ?_) (fun h2 => ?_)
      · have hc : chosenB index j = true := by simp at h2; simp [chosenB, h2]
        (repeat (first | refine lw_pure hT rfl ?_ | refine cw_region ?_))
        refine lw_index_arr hT rfl rfl rfl j rfl hlt ?_
        skip
        refine lw_buildSlice sl132 rfl rfl rfl ?_
        intro bo w4 hbo hb4 hx4 hs4
        replace hb4 : Blk w4 bo [ptrP e j] 137 := hb4
        skip
        have ho4 := own_ex ho hx4
        refine lw_append sl132 (by decide) rfl ho4 rfl (hb4.rd 0 1) rfl (by intro u hu; simp at hu; subst hu; rfl) (by unfold maxLen; omega) (by omega) (by omega) ?_
        intro v' w5 k1 k2 k3 k4
        (repeat (first | (refine lw_add rfl rfl ?_ ?_ ?_; iterate 2 omega) | refine lw_pure hT rfl ?_ | refine lw_nil ?_ | refine cw_region ?_ | refine qw_then ?_ | refine qw_block ?_))
        refine qw_round (α := Nat × Value) (j + 1, v') (by repeat (first | exact trivial | refine ⟨rfl, ?_⟩)) ⟨?_, by omega, ?_⟩ (by simp; omega)
        · refine (hx1.trans hx4).trans' k2 (fun _ _ f => f.elim) (fun i hi g => ?_)
          have := (own_base ho4 g.symm).1
          omega
        · rw [yes hc, List.length_append, List.map_append]; exact k1
      · have hc : chosenB index j = false := by simp at h1 h2; simp [chosenB, h1]; omega
        (repeat (first | (refine lw_add rfl rfl ?_ ?_ ?_; iterate 2 omega) | refine lw_pure hT rfl ?_ | refine lw_nil ?_ | refine cw_region ?_ | refine qw_then ?_ | refine cw_skip ?_ | refine qw_block ?_))
        refine qw_round (α := Nat × Value) (j + 1, vo) (by repeat (first | exact trivial | refine ⟨rfl, ?_⟩)) ⟨hx1, by omega, ?_⟩ (by simp; omega)
        rw [no hc]; exact ho
  · have : j = 3 := by simp at h; omega
    subst this
    (repeat (first | refine lw_pure hT rfl ?_ | refine lw_nil ?_ | refine cw_seq ?_ | refine cw_region ?_ | refine qw_then ?_ | refine cw_ret ?_ | refine cw_exit ?_ | refine qw_block_exit ?_ | refine qw_then_exit ?_))
    rw [ixs_eq] at ho
    exact qw_ret rfl ⟨ho, hx1⟩
section
variable {w : World}
theorem reg_until {x : EntD} {g : GhostE} (hE : EntOk w x g) {j : Nat} {q : PapD} (hq : x.ps[j]? = some q) : Ret Tryz.prog 121 [.pointer (some ⟨g.e, 0, none⟩), ptrP g.e j] w fun v w' => v = .int .i64 (untilD x.bill q) ∧ w = w' := by
  have hj : j < 3 := by have := (List.getElem?_eq_some_iff.1 hq).1; rw [hE.three] at this; exact this
  obtain ⟨q', vc, g1, g2, g3, g4, g5⟩ := entCells_paper hE.three hE.three' hj
  rw [hq] at g1; cases g1
  have hch := hE.chains j q vc hq g2
  have hSl := ChainOk.sl (A := fun _ => True) hch (fun _ _ => trivial)
  have hm := hSl.small
  have hb := hE.blk
  unfold ptrP
  obtain ⟨a, cap, rfl, hz, hr⟩ := hSl.is
  simp only [List.length_map] at *
  unfold maxLen at hm
  refine ret_of Tryz.func121 Tryz.ntmps121 rfl rfl rfl ?_
  (repeat (first | refine lw_pure hT rfl ?_ | refine lw_nil ?_ | refine cw_seq ?_ | refine cw_region ?_ | refine qw_then ?_))
  refine lw_load hT rfl rfl (v := .slice a q.chain.length cap) ((hb.cell _).trans g5) ?_
  (repeat (first | refine lw_pure hT rfl ?_ | refine lw_nil ?_ | refine cw_seq ?_ | refine cw_region ?_ | refine qw_then ?_))
  refine cw_cond rfl (fun h => ?_) (fun h => ?_)
  · have h0 : 0 < q.chain.length := by simp at h; omega
    have hne : q.chain.map encE ≠ [] := by intro e; simp at e; simp [e] at h0
    obtain ⟨b, o, rfl, hA, hrd⟩ := hr hne
    have hlt : q.chain.length - 1 < q.chain.length := by omega
    obtain ⟨hlen, hrd⟩ := hrd (q.chain.length - 1) (encE q.chain[q.chain.length - 1]) (by simp [hlt])
    (repeat (first | refine lw_pure hT rfl ?_ | refine cw_seq ?_ | refine cw_region ?_))
    refine lw_load hT rfl rfl (v := .slice (some ⟨b, o, none⟩) q.chain.length cap) ((hb.cell _).trans g5) ?_
    (repeat (first | (refine lw_sub rfl rfl ?_ ?_ ?_; iterate 2 omega) | refine lw_pure hT rfl ?_))
    refine lw_index hT rfl rfl rfl (q.chain.length - 1) (by omega) hlt ?_
    (repeat (refine lw_pure hT rfl ?_))
    refine lw_load hT rfl rfl (v := .int .i64 q.chain[q.chain.length - 1].day) (hrd 3 _ rfl) ?_
    (repeat (first | refine lw_pure hT rfl ?_ | refine lw_nil ?_ | refine qw_then ?_ | refine cw_ret ?_ | refine qw_then_ret ?_))
    refine qw_ret rfl ⟨?_, rfl⟩
    simp only [untilD, oneOr, List.getLast?_eq_getElem?, List.getElem?_eq_getElem hlt]
  · have h0 : q.chain = [] := by simp at h; simpa using h
    (repeat (first | refine lw_pure hT rfl ?_ | refine cw_seq ?_ | refine cw_region ?_ | refine qw_then ?_ | refine cw_skip ?_))
    refine lw_load hT rfl rfl (v := .int .i64 x.bill.issued) (hb.cell 7) ?_
    (repeat (first | refine lw_pure hT rfl ?_ | refine lw_nil ?_ | refine qw_then ?_ | refine cw_ret ?_))
    refine qw_ret rfl ⟨?_, rfl⟩
    simp only [untilD, oneOr, h0]; rfl
end
end Go.Proofs.YtnglkhnfmbnfeaaGreat
namespace Go.Proofs.YtnglkhnfmbnfeaaGreat
open Go Go.SK
section
variable {P : Program} {T : Tab} {n : Nat} {fr : Fr} {w : World} {Q : Exit → Act → World → Prop} {ops : Array Oper} {S : World → Prop}
theorem yo_lookup_ok_some {d t e b : Nat} {z v : Value} {es : List (ByteArray × Value)} {ks : ByteArray} {x y : Operand} {ty : TypeId} {ps : String} {af : Array Edge} (hM : MpT P t e z) (hx : ev n fr x = some (.map (some b))) (hy : ev n fr y = some (.string ks)) (hm : ∀ w, S w → Mp w b es)
    (hg : mget es ks = some v) : YO P ops S n fr { dst := some d, op := .lookup t x y true, type := ty, pos := ps, after := af, guard := none } (.tuple #[v, .bool true]) := by
  have := yo_lookup_ok (ops := ops) (d := d) (ty := ty) (ps := ps) (af := af) hM hx hy hm
  rw [hg] at this; exact this
theorem yo_lookup_ok_none {d t e b : Nat} {z : Value} {es : List (ByteArray × Value)} {ks : ByteArray} {x y : Operand} {ty : TypeId} {ps : String} {af : Array Edge} (hM : MpT P t e z) (hx : ev n fr x = some (.map (some b))) (hy : ev n fr y = some (.string ks)) (hm : ∀ w, S w → Mp w b es)
    (hg : mget es ks = none) : YO P ops S n fr { dst := some d, op := .lookup t x y true, type := ty, pos := ps, after := af, guard := none } (.tuple #[z, .bool false]) := by
  have := yo_lookup_ok (ops := ops) (d := d) (ty := ty) (ps := ps) (af := af) hM hx hy hm
  rw [hg] at this; exact this
end
def encA (a : AskD) : List Value := [.string a.bill, .string a.by_, .int .i64 a.index, .int .i64 a.state, .bool a.dated, .int .i64 a.day, .string a.to_, .bool a.given]
structure Ctx (w : World) (a : AskD) (x : EntD) (g : GhostE) (vl : Value) (b3 b7 b9 b10 : Nat) : Prop where
  act : Blk w b3 (encA a) 136
  ent : Blk w b7 [.pointer (some ⟨g.e, 0, none⟩)] 76
  lst : Blk w b9 [vl] 132
  any : Blk w b10 [.func (.func 110) #[] #[.pointer (some ⟨b9, 0, none⟩)]] 168
  E : EntOk w x g
  row : Sl (fun _ => True) w vl 1 ((ixs a.index).map fun k => [ptrP g.e k])
theorem Ctx.ex {w w' : World} {a : AskD} {x : EntD} {g : GhostE} {vl : Value} {b3 b7 b9 b10 : Nat} (h : Ctx w a x g vl b3 b7 b9 b10) (hx : Ex w w') : Ctx w' a x g vl b3 b7 b9 b10 :=
  ⟨h.act.ex hx, h.ent.ex hx, h.lst.ex hx, h.any.ex hx, h.E.ex hx, h.row.ex hx⟩
def papAt (x : EntD) (k : Nat) : PapD := x.ps.getD k default
theorem papAt_get {x : EntD} (h : x.ps.length = 3) {k : Nat} (hk : k < 3) : x.ps[k]? = some (papAt x k) := by
  simp [papAt, List.getD_eq_getElem?_getD, h, hk]
section
variable {w : World} {a : AskD} {x : EntD} {g : GhostE} {vl : Value} {b3 b7 b9 b10 : Nat}
theorem Ctx.pap (hC : Ctx w a x g vl b3 b7 b9 b10) {k : Nat} (hk : k < 3) : ∃ vc, w.cell? ⟨g.e, 10 + k * 3, none⟩ = some (.int .i64 (papAt x k).state) ∧ w.cell? ⟨g.e, 10 + k * 3 + 1, none⟩ = some (.string (papAt x k).holder) ∧ w.cell? ⟨g.e, 10 + k * 3 + 2, none⟩ = some vc := by
  obtain ⟨q, vc, g1, g2, g3, g4, g5⟩ := entCells_paper hC.E.three hC.E.three' hk
  rw [papAt_get hC.E.three hk] at g1; cases g1
  exact ⟨vc, (hC.E.blk.cell _).trans g3, (hC.E.blk.cell _).trans g4, (hC.E.blk.cell _).trans g5⟩
theorem find_41 (hC : Ctx w a x g vl b3 b7 b9 b10) {k : Nat} (hk : k < 3) : Ret Tryz.prog 116 ([] ++ [ptrP g.e k] ++ [.pointer (some ⟨b3, 0, none⟩)]) w fun v w' => v = .bool (decide ((papAt x k).state ≠ a.state)) ∧ Ex w w' := by
  obtain ⟨vc, h1, h2, h3⟩ := hC.pap hk
  unfold ptrP
  refine ret_of Tryz.func116 Tryz.ntmps116 rfl rfl rfl ?_
  (repeat (first | refine lw_pure hT rfl ?_ | refine lw_nil ?_ | refine cw_seq ?_ | refine cw_region ?_ | refine qw_then ?_))
  refine cw_draw hM (fun w' => Ex w w') [] rfl rfl (by repeat with_reducible (first | refine nop_then ?_ | refine nop_block ?_ | exact nop_body)) (fun w1 hx1 _ => ⟨hx1, ?_⟩)
  (refine rw_takeP 0 rfl rfl (by kernel_rfl) (by kernel_rfl) (by kernel_rfl) (by kernel_rfl) rfl (yo_pure hT rfl) ?_; refine rw_takeP 1 rfl rfl (by kernel_rfl) (by kernel_rfl) (by kernel_rfl) (by kernel_rfl) rfl (yo_pure hT rfl) ?_; refine rw_takeP 2 rfl rfl (by kernel_rfl) (by kernel_rfl) (by kernel_rfl) (by kernel_rfl) rfl (yo_pure hT rfl) ?_)
  refine rw_take 3 rfl rfl (by kernel_rfl) (by kernel_rfl) (by kernel_rfl) (by kernel_rfl) rfl (yo_load hT rfl rfl (fun w' hS => Ex.cell hS h1)) ?_
  (refine rw_takeP 4 rfl rfl (by kernel_rfl) (by kernel_rfl) (by kernel_rfl) (by kernel_rfl) rfl (yo_pure hT rfl) ?_)
  refine rw_take 5 rfl rfl (by kernel_rfl) (by kernel_rfl) (by kernel_rfl) (by kernel_rfl) rfl (yo_load hT rfl rfl (fun w' hS => Ex.cell hS (hC.act.cell 3))) ?_
  (refine rw_takeP 6 rfl rfl (by kernel_rfl) (by kernel_rfl) (by kernel_rfl) (by kernel_rfl) rfl (yo_pure hT rfl) ?_; refine rw_takeP 7 rfl rfl (by kernel_rfl) (by kernel_rfl) (by kernel_rfl) (by kernel_rfl) rfl (yo_pure hT rfl) ?_)
  refine rw_done (by kernel_rfl) ?_
  (repeat (first | refine qw_then ?_ | refine cw_ret ?_))
  exact qw_ret rfl ⟨rfl, hx1⟩
theorem find_51 (hC : Ctx w a x g vl b3 b7 b9 b10) {k : Nat} (hk : k < 3) : Ret Tryz.prog 118 ([] ++ [ptrP g.e k] ++ [.pointer (some ⟨b3, 0, none⟩)]) w fun v w' => v = .bool (decide ((papAt x k).holder ≠ a.by_)) ∧ Ex w w' := by
  obtain ⟨vc, h1, h2, h3⟩ := hC.pap hk
  unfold ptrP
  refine ret_of Tryz.func118 Tryz.ntmps118 rfl rfl rfl ?_
  (repeat (first | refine lw_pure hT rfl ?_ | refine lw_nil ?_ | refine cw_seq ?_ | refine cw_region ?_ | refine qw_then ?_))
  refine cw_draw hM (fun w' => Ex w w') [] rfl rfl (by repeat with_reducible (first | refine nop_then ?_ | refine nop_block ?_ | exact nop_body)) (fun w1 hx1 _ => ⟨hx1, ?_⟩)
  (refine rw_takeP 0 rfl rfl (by kernel_rfl) (by kernel_rfl) (by kernel_rfl) (by kernel_rfl) rfl (yo_pure hT rfl) ?_; refine rw_takeP 1 rfl rfl (by kernel_rfl) (by kernel_rfl) (by kernel_rfl) (by kernel_rfl) rfl (yo_pure hT rfl) ?_; refine rw_takeP 2 rfl rfl (by kernel_rfl) (by kernel_rfl) (by kernel_rfl) (by kernel_rfl) rfl (yo_pure hT rfl) ?_)
  refine rw_take 3 rfl rfl (by kernel_rfl) (by kernel_rfl) (by kernel_rfl) (by kernel_rfl) rfl (yo_load hT rfl rfl (fun w' hS => Ex.cell hS h2)) ?_
  (refine rw_takeP 4 rfl rfl (by kernel_rfl) (by kernel_rfl) (by kernel_rfl) (by kernel_rfl) rfl (yo_pure hT rfl) ?_)
  refine rw_take 5 rfl rfl (by kernel_rfl) (by kernel_rfl) (by kernel_rfl) (by kernel_rfl) rfl (yo_load hT rfl rfl (fun w' hS => Ex.cell hS (hC.act.cell 1))) ?_
  (refine rw_takeP 6 rfl rfl (by kernel_rfl) (by kernel_rfl) (by kernel_rfl) (by kernel_rfl) rfl (yo_pure hT rfl) ?_; refine rw_takeP 7 rfl rfl (by kernel_rfl) (by kernel_rfl) (by kernel_rfl) (by kernel_rfl) rfl (yo_pure hT rfl) ?_)
  refine rw_done (by kernel_rfl) ?_
  (repeat (first | refine qw_then ?_ | refine cw_ret ?_))
  exact qw_ret rfl ⟨rfl, hx1⟩
theorem find_61 (hC : Ctx w a x g vl b3 b7 b9 b10) {k : Nat} (hk : k < 3) : Ret Tryz.prog 120 ([] ++ [ptrP g.e k] ++ [.pointer (some ⟨b3, 0, none⟩), .pointer (some ⟨b7, 0, none⟩)]) w fun v w' =>
    v = .bool (decide (a.day < untilD x.bill (papAt x k))) ∧ Ex w w' := by
  refine ret_of Tryz.func120 Tryz.ntmps120 rfl rfl rfl ?_
  (repeat (first | refine lw_pure hT rfl ?_ | refine lw_nil ?_ | refine cw_seq ?_ | refine cw_region ?_ | refine qw_then ?_))
  refine cw_draw hM (fun w' => Ex w w') [] rfl rfl (by repeat with_reducible (first | refine nop_then ?_ | refine nop_block ?_ | exact nop_body)) (fun w1 hx1 _ => ⟨hx1, ?_⟩)
  (refine rw_takeP 0 rfl rfl (by kernel_rfl) (by kernel_rfl) (by kernel_rfl) (by kernel_rfl) rfl (yo_pure hT rfl) ?_)
  refine rw_take 1 rfl rfl (by kernel_rfl) (by kernel_rfl) (by kernel_rfl) (by kernel_rfl) rfl (yo_load hT rfl rfl (fun w' hS => Ex.cell hS (hC.act.cell 5))) ?_
  refine rw_take 2 rfl rfl (by kernel_rfl) (by kernel_rfl) (by kernel_rfl) (by kernel_rfl) rfl (yo_load hT rfl rfl (fun w' hS => Ex.cell hS (hC.ent.cell 0))) ?_
  (refine rw_takeP 3 rfl rfl (by kernel_rfl) (by kernel_rfl) (by kernel_rfl) (by kernel_rfl) rfl (yo_pure hT rfl) ?_)
  refine rw_one 4 rfl (by kernel_rfl) rfl (fun hcl => ?_)
  skip
  refine lw_call hT rfl rfl (reg_until (hC.E.ex hx1) (papAt_get hC.E.three hk)) ?_
  rintro _ _ ⟨rfl, rfl⟩
  (repeat (refine lw_nil ?_))
  refine qw_rw (by repeat with_reducible (first | refine nop_then ?_ | refine nop_block ?_ | exact nop_body)) hcl (fun _ => hx1) ?_
  (refine rw_takeP 5 rfl rfl (by kernel_rfl) (by kernel_rfl) (by kernel_rfl) (by kernel_rfl) rfl (yo_pure hT rfl) ?_; refine rw_takeP 6 rfl rfl (by kernel_rfl) (by kernel_rfl) (by kernel_rfl) (by kernel_rfl) rfl (yo_pure hT rfl) ?_)
  refine rw_done (by kernel_rfl) ?_
  (repeat (first | refine qw_then ?_ | refine cw_ret ?_))
  exact qw_ret rfl ⟨rfl, hx1⟩
theorem find_1 (hC : Ctx w a x g vl b3 b7 b9 b10) {f : Nat} {cp : List Value} (hf : memN T.fns f = true) (pr : Nat → Bool)
    (hcl : ∀ k, k < 3 → ∀ w', Ex w w' → Ret Tryz.prog f ([] ++ [ptrP g.e k] ++ cp) w' fun v w'' => v = .bool (pr k) ∧ Ex w' w'') :
    Ret Tryz.prog 110 ([] ++ [.func (.func f) ⟨[]⟩ ⟨cp⟩] ++ [.pointer (some ⟨b9, 0, none⟩)]) w fun v w' => v = .bool ((ixs a.index).any pr) ∧ Ex w w' := by
  refine ret_of Tryz.func110 Tryz.ntmps110 rfl rfl rfl ?_
  (repeat (first | refine lw_pure hT rfl ?_ | refine lw_nil ?_ | refine cw_seq ?_ | refine cw_region ?_ | refine qw_then ?_))
  refine lw_load hT rfl rfl (v := vl) (hC.lst.cell 0) ?_
  (repeat (refine lw_pure hT rfl ?_))
  refine lw_call hT rfl rfl (cnf_ptr (fun k => [ptrP g.e k]) (fun k => ptrP g.e k) (fun _ => rfl) pr (fi := []) (cp := cp) w hC.row hf (fun k hk w' hx => hcl k (ixs_lt hk) w' hx)) ?_
  rintro _ w1 ⟨rfl, hx1⟩
  (repeat (first | refine lw_pure hT rfl ?_ | refine lw_nil ?_ | refine qw_then ?_ | refine cw_ret ?_))
  exact qw_ret rfl ⟨rfl, hx1⟩
theorem find_2 (hC : Ctx w a x g vl b3 b7 b9 b10) : Ret Tryz.prog 112 ([] ++ [] ++ [.pointer (some ⟨b9, 0, none⟩)]) w fun v w' => v = .bool (decide ((ixs a.index).length = 0)) ∧ Ex w w' := by
  obtain ⟨ad, cap, hv, _, _⟩ := hC.row.is
  have hl := hC.lst
  rw [hv, List.length_map] at hl
  refine ret_of Tryz.func112 Tryz.ntmps112 rfl rfl rfl ?_
  (repeat (first | refine lw_pure hT rfl ?_ | refine lw_nil ?_ | refine cw_seq ?_ | refine cw_region ?_ | refine qw_then ?_))
  refine lw_load hT rfl rfl (v := .slice ad (ixs a.index).length cap) (hl.cell 0) ?_
  (repeat (first | refine lw_pure hT rfl ?_ | refine lw_nil ?_ | refine qw_then ?_ | refine cw_ret ?_))
  refine qw_ret rfl ⟨?_, Ext.refl _ _⟩
  simp [oneOr]
theorem find_3 (hC : Ctx w a x g vl b3 b7 b9 b10) (hs : a.to_.size ≤ maxLen) : Ret Tryz.prog 113 ([] ++ [] ++ [.pointer (some ⟨b3, 0, none⟩)]) w fun v w' =>
    v = .bool ((a.dated && !dayB a.day) || (a.given && (!nameB a.to_ || decide (a.to_ = a.by_)))) ∧ Ex w w' := by
  have hb := hC.act
  refine ret_of Tryz.func113 Tryz.ntmps113 rfl rfl rfl ?_
  (repeat (first | refine lw_pure hT rfl ?_ | refine lw_nil ?_ | refine cw_seq ?_ | refine cw_region ?_ | refine qw_then ?_))
  refine lw_load hT rfl rfl (v := .bool a.dated) (hb.cell 4) ?_
  (repeat (refine lw_pure hT rfl ?_))
  have tail : ∀ (d : Bool), (a.dated && !dayB a.day) = d → d = false → (a.given && (!nameB a.to_ || decide (a.to_ = a.by_))) = ((a.dated && !dayB a.day) || (a.given && (!nameB a.to_ || decide (a.to_ = a.by_)))) := by
    intro d h1 h2; rw [h1, h2]; rfl
  refine lw_guard rfl (fun h1 => ?_) (fun h1 => ?_)
  · (repeat (first | refine lw_pure hT rfl ?_ | (refine lw_gon_t rfl ?_ ?_; focus with_reducible (first | rfl | exact Bool.not_false | exact Bool.not_true))))
    refine lw_load hT rfl rfl (v := .int .i64 a.day) (hb.cell 5) ?_
    (repeat (refine lw_gon_t rfl ?_ ?_; focus with_reducible (first | rfl | exact Bool.not_false | exact Bool.not_true)))
    refine lw_call hT rfl rfl (reg_day _ w) ?_
    rintro _ _ ⟨rfl, rfl⟩
    (repeat (first | refine lw_pure hT rfl ?_ | (refine lw_gon_t rfl ?_ ?_; focus with_reducible (first | rfl | exact Bool.not_false | exact Bool.not_true))))
    refine lw_guard rfl (fun h2 => ?_) (fun h2 => ?_)
    · (repeat (first | refine lw_pure hT rfl ?_ | refine lw_nil ?_ | refine qw_then ?_ | refine cw_ret ?_ | refine lw_goff_u rfl ?_ | (refine lw_goff_t rfl ?_ ?_; focus with_reducible (first | rfl | exact Bool.not_false | exact Bool.not_true))))
      exact qw_ret rfl ⟨by rw [h1, h2]; rfl, Ext.refl _ _⟩
    · (repeat (first | refine lw_pure hT rfl ?_ | (refine lw_gon_f rfl ?_ ?_; focus with_reducible (first | rfl | exact Bool.not_false | exact Bool.not_true))))
      refine lw_load hT rfl rfl (v := .bool a.given) (hb.cell 7) ?_
      (repeat (first | refine lw_pure hT rfl ?_ | (refine lw_gon_f rfl ?_ ?_; focus with_reducible (first | rfl | exact Bool.not_false | exact Bool.not_true))))
      refine lw_guard rfl (fun h3 => ?_) (fun h3 => ?_)
      · (repeat (first | refine lw_pure hT rfl ?_ | (refine lw_gon_t rfl ?_ ?_; focus with_reducible (first | rfl | exact Bool.not_false | exact Bool.not_true))))
        refine lw_load hT rfl rfl (v := .string a.to_) (hb.cell 6) ?_
        (repeat (refine lw_gon_t rfl ?_ ?_; focus with_reducible (first | rfl | exact Bool.not_false | exact Bool.not_true)))
        refine lw_call hT rfl rfl (mark_Name _ w hs) ?_
        rintro _ _ ⟨rfl, rfl⟩
        (repeat (first | refine lw_pure hT rfl ?_ | (refine lw_gon_t rfl ?_ ?_; focus with_reducible (first | rfl | exact Bool.not_false | exact Bool.not_true))))
        refine lw_guard rfl (fun h4 => ?_) (fun h4 => ?_)
        · (repeat (first | refine lw_pure hT rfl ?_ | refine lw_nil ?_ | refine qw_then ?_ | refine cw_ret ?_ | (refine lw_gon_t rfl ?_ ?_; focus with_reducible (first | rfl | exact Bool.not_false | exact Bool.not_true)) | (refine lw_goff_t rfl ?_ ?_; focus with_reducible (first | rfl | exact Bool.not_false | exact Bool.not_true)) | (refine lw_gon_f rfl ?_ ?_; focus with_reducible (first | rfl | exact Bool.not_false | exact Bool.not_true))))
          exact qw_ret rfl ⟨by rw [h1, h2, h3, h4]; rfl, Ext.refl _ _⟩
        · (repeat (first | refine lw_pure hT rfl ?_ | (refine lw_gon_f rfl ?_ ?_; focus with_reducible (first | rfl | exact Bool.not_false | exact Bool.not_true))))
          refine lw_load hT rfl rfl (v := .string a.to_) (hb.cell 6) ?_
          (repeat (first | refine lw_pure hT rfl ?_ | (refine lw_gon_f rfl ?_ ?_; focus with_reducible (first | rfl | exact Bool.not_false | exact Bool.not_true))))
          refine lw_load hT rfl rfl (v := .string a.by_) (hb.cell 1) ?_
          (repeat (first | refine lw_pure hT rfl ?_ | refine lw_nil ?_ | refine qw_then ?_ | refine cw_ret ?_ | (refine lw_gon_t rfl ?_ ?_; focus with_reducible (first | rfl | exact Bool.not_false | exact Bool.not_true)) | (refine lw_gon_f rfl ?_ ?_; focus with_reducible (first | rfl | exact Bool.not_false | exact Bool.not_true))))
          exact qw_ret rfl ⟨by rw [h1, h2, h3, h4]; rfl, Ext.refl _ _⟩
      · (repeat (first | refine lw_pure hT rfl ?_ | refine lw_nil ?_ | refine qw_then ?_ | refine cw_ret ?_ | refine lw_goff_u rfl ?_ | (refine lw_goff_f rfl ?_ ?_; focus with_reducible (first | rfl | exact Bool.not_false | exact Bool.not_true)) | (refine lw_gon_f rfl ?_ ?_; focus with_reducible (first | rfl | exact Bool.not_false | exact Bool.not_true))))
        exact qw_ret rfl ⟨by rw [h1, h2, h3]; rfl, Ext.refl _ _⟩
  · (repeat (first | refine lw_pure hT rfl ?_ | (refine lw_goff_f rfl ?_ ?_; focus with_reducible (first | rfl | exact Bool.not_false | exact Bool.not_true)) | (refine lw_gon_f rfl ?_ ?_; focus with_reducible (first | rfl | exact Bool.not_false | exact Bool.not_true))))
    refine lw_load hT rfl rfl (v := .bool a.given) (hb.cell 7) ?_
    (repeat (first | refine lw_pure hT rfl ?_ | (refine lw_gon_f rfl ?_ ?_; focus with_reducible (first | rfl | exact Bool.not_false | exact Bool.not_true))))
    refine lw_guard rfl (fun h3 => ?_) (fun h3 => ?_)
    · (repeat (first | refine lw_pure hT rfl ?_ | (refine lw_gon_t rfl ?_ ?_; focus with_reducible (first | rfl | exact Bool.not_false | exact Bool.not_true))))
      refine lw_load hT rfl rfl (v := .string a.to_) (hb.cell 6) ?_
      (repeat (refine lw_gon_t rfl ?_ ?_; focus with_reducible (first | rfl | exact Bool.not_false | exact Bool.not_true)))
      refine lw_call hT rfl rfl (mark_Name _ w hs) ?_
      rintro _ _ ⟨rfl, rfl⟩
      (repeat (first | refine lw_pure hT rfl ?_ | (refine lw_gon_t rfl ?_ ?_; focus with_reducible (first | rfl | exact Bool.not_false | exact Bool.not_true))))
      refine lw_guard rfl (fun h4 => ?_) (fun h4 => ?_)
      · (repeat (first | refine lw_pure hT rfl ?_ | refine lw_nil ?_ | refine qw_then ?_ | refine cw_ret ?_ | (refine lw_gon_t rfl ?_ ?_; focus with_reducible (first | rfl | exact Bool.not_false | exact Bool.not_true)) | (refine lw_goff_t rfl ?_ ?_; focus with_reducible (first | rfl | exact Bool.not_false | exact Bool.not_true)) | (refine lw_gon_f rfl ?_ ?_; focus with_reducible (first | rfl | exact Bool.not_false | exact Bool.not_true))))
        exact qw_ret rfl ⟨by rw [h1, h3, h4]; rfl, Ext.refl _ _⟩
      · (repeat (first | refine lw_pure hT rfl ?_ | (refine lw_gon_f rfl ?_ ?_; focus with_reducible (first | rfl | exact Bool.not_false | exact Bool.not_true))))
        refine lw_load hT rfl rfl (v := .string a.to_) (hb.cell 6) ?_
        (repeat (first | refine lw_pure hT rfl ?_ | (refine lw_gon_f rfl ?_ ?_; focus with_reducible (first | rfl | exact Bool.not_false | exact Bool.not_true))))
        refine lw_load hT rfl rfl (v := .string a.by_) (hb.cell 1) ?_
        (repeat (first | refine lw_pure hT rfl ?_ | refine lw_nil ?_ | refine qw_then ?_ | refine cw_ret ?_ | (refine lw_gon_t rfl ?_ ?_; focus with_reducible (first | rfl | exact Bool.not_false | exact Bool.not_true)) | (refine lw_gon_f rfl ?_ ?_; focus with_reducible (first | rfl | exact Bool.not_false | exact Bool.not_true))))
        exact qw_ret rfl ⟨by rw [h1, h3, h4]; rfl, Ext.refl _ _⟩
    · (repeat (first | refine lw_pure hT rfl ?_ | refine lw_nil ?_ | refine qw_then ?_ | refine cw_ret ?_ | refine lw_goff_u rfl ?_ | (refine lw_goff_f rfl ?_ ?_; focus with_reducible (first | rfl | exact Bool.not_false | exact Bool.not_true)) | (refine lw_gon_f rfl ?_ ?_; focus with_reducible (first | rfl | exact Bool.not_false | exact Bool.not_true))))
      exact qw_ret rfl ⟨by rw [h1, h3]; rfl, Ext.refl _ _⟩
theorem find_4 (hC : Ctx w a x g vl b3 b7 b9 b10) : Ret Tryz.prog 115 ([] ++ [] ++ [.pointer (some ⟨b7, 0, none⟩), .pointer (some ⟨b10, 0, none⟩), .pointer (some ⟨b3, 0, none⟩)]) w fun v w' =>
    v = .bool (decide (x.state ≠ 0) || (ixs a.index).any fun k => decide ((papAt x k).state ≠ a.state)) ∧ Ex w w' := by
  refine ret_of Tryz.func115 Tryz.ntmps115 rfl rfl rfl ?_
  (repeat (first | refine lw_pure hT rfl ?_ | refine lw_nil ?_ | refine cw_seq ?_ | refine cw_region ?_ | refine qw_then ?_))
  refine lw_load hT rfl rfl (v := .pointer (some ⟨g.e, 0, none⟩)) (hC.ent.cell 0) ?_
  (repeat (refine lw_pure hT rfl ?_))
  refine lw_load hT rfl rfl (v := .int .i64 x.state) (hC.E.blk.cell 9) ?_
  (repeat (refine lw_pure hT rfl ?_))
  refine lw_guard rfl (fun h1 => ?_) (fun h1 => ?_)
  · (repeat (first | refine lw_pure hT rfl ?_ | refine lw_nil ?_ | refine qw_then ?_ | refine cw_ret ?_ | (refine lw_goff_t rfl ?_ ?_; focus with_reducible (first | rfl | exact Bool.not_false | exact Bool.not_true))))
    exact qw_ret rfl ⟨by rw [h1]; rfl, Ext.refl _ _⟩
  · (repeat (refine lw_gon_f rfl ?_ ?_; focus with_reducible (first | rfl | exact Bool.not_false | exact Bool.not_true)))
    refine lw_load hT rfl rfl (v := .func (.func 110) #[] #[.pointer (some ⟨b9, 0, none⟩)]) (hC.any.cell 0) ?_
    (repeat (first | refine lw_pure hT rfl ?_ | (refine lw_gon_f rfl ?_ ?_; focus with_reducible (first | rfl | exact Bool.not_false | exact Bool.not_true))))
    refine lw_call_fn hT rfl rfl rfl (find_1 hC (f := 116) (cp := [.pointer (some ⟨b3, 0, none⟩)]) rfl (fun k => decide ((papAt x k).state ≠ a.state)) (fun k hk w' hx => find_41 (hC.ex hx) hk)) ?_
    rintro _ w1 ⟨rfl, hx1⟩
    (repeat (first | refine lw_pure hT rfl ?_ | refine lw_nil ?_ | refine qw_then ?_ | refine cw_ret ?_))
    exact qw_ret rfl ⟨by rw [h1]; rfl, hx1⟩
theorem find_5 (hC : Ctx w a x g vl b3 b7 b9 b10) : Ret Tryz.prog 117 ([] ++ [] ++ [.pointer (some ⟨b10, 0, none⟩), .pointer (some ⟨b3, 0, none⟩)]) w fun v w' =>
    v = .bool ((ixs a.index).any fun k => decide ((papAt x k).holder ≠ a.by_)) ∧ Ex w w' := by
  refine ret_of Tryz.func117 Tryz.ntmps117 rfl rfl rfl ?_
  (repeat (first | refine lw_pure hT rfl ?_ | refine lw_nil ?_ | refine cw_seq ?_ | refine cw_region ?_ | refine qw_then ?_))
  refine lw_load hT rfl rfl (v := .func (.func 110) #[] #[.pointer (some ⟨b9, 0, none⟩)]) (hC.any.cell 0) ?_
  (repeat (refine lw_pure hT rfl ?_))
  refine lw_call_fn hT rfl rfl rfl (find_1 hC (f := 118) (cp := [.pointer (some ⟨b3, 0, none⟩)]) rfl (fun k => decide ((papAt x k).holder ≠ a.by_)) (fun k hk w' hx => find_51 (hC.ex hx) hk)) ?_
  rintro _ w1 ⟨rfl, hx1⟩
  (repeat (first | refine lw_pure hT rfl ?_ | refine lw_nil ?_ | refine qw_then ?_ | refine cw_ret ?_))
  exact qw_ret rfl ⟨rfl, hx1⟩
theorem find_6 (hC : Ctx w a x g vl b3 b7 b9 b10) : Ret Tryz.prog 119 ([] ++ [] ++ [.pointer (some ⟨b3, 0, none⟩), .pointer (some ⟨b10, 0, none⟩), .pointer (some ⟨b7, 0, none⟩)]) w fun v w' =>
    v = .bool (a.dated && (ixs a.index).any fun k => decide (a.day < untilD x.bill (papAt x k))) ∧ Ex w w' := by
  refine ret_of Tryz.func119 Tryz.ntmps119 rfl rfl rfl ?_
  (repeat (first | refine lw_pure hT rfl ?_ | refine lw_nil ?_ | refine cw_seq ?_ | refine cw_region ?_ | refine qw_then ?_))
  refine lw_load hT rfl rfl (v := .bool a.dated) (hC.act.cell 4) ?_
  (repeat (refine lw_pure hT rfl ?_))
  refine lw_guard rfl (fun h1 => ?_) (fun h1 => ?_)
  · (repeat (refine lw_gon_t rfl ?_ ?_; focus with_reducible (first | rfl | exact Bool.not_false | exact Bool.not_true)))
    refine lw_load hT rfl rfl (v := .func (.func 110) #[] #[.pointer (some ⟨b9, 0, none⟩)]) (hC.any.cell 0) ?_
    (repeat (first | refine lw_pure hT rfl ?_ | (refine lw_gon_t rfl ?_ ?_; focus with_reducible (first | rfl | exact Bool.not_false | exact Bool.not_true))))
    refine lw_call_fn hT rfl rfl rfl (find_1 hC (f := 120) (cp := [.pointer (some ⟨b3, 0, none⟩), .pointer (some ⟨b7, 0, none⟩)]) rfl (fun k => decide (a.day < untilD x.bill (papAt x k))) (fun k hk w' hx => find_61 (hC.ex hx) hk)) ?_
    rintro _ w1 ⟨rfl, hx1⟩
    (repeat (first | refine lw_pure hT rfl ?_ | refine lw_nil ?_ | refine qw_then ?_ | refine cw_ret ?_))
    exact qw_ret rfl ⟨by rw [h1]; rfl, hx1⟩
  · (repeat (first | refine lw_pure hT rfl ?_ | refine lw_nil ?_ | refine qw_then ?_ | refine cw_ret ?_ | (refine lw_goff_f rfl ?_ ?_; focus with_reducible (first | rfl | exact Bool.not_false | exact Bool.not_true))))
    exact qw_ret rfl ⟨by rw [h1]; rfl, Ext.refl _ _⟩
end
end Go.Proofs.YtnglkhnfmbnfeaaGreat
namespace Go.Proofs.YtnglkhnfmbnfeaaGreat
open Go Go.SK
def asks (x : EntD) (a : AskD) : Nat → Bool
  | 0 => decide ((ixs a.index).length = 0)
  | 1 => (a.dated && !dayB a.day) || (a.given && (!nameB a.to_ || decide (a.to_ = a.by_)))
  | 2 => decide (x.state ≠ 0) || (ixs a.index).any fun k => decide ((papAt x k).state ≠ a.state)
  | 3 => (ixs a.index).any fun k => decide ((papAt x k).holder ≠ a.by_)
  | _ => a.dated && (ixs a.index).any fun k => decide (a.day < untilD x.bill (papAt x k))
def codes : Nat → Int
  | 0 => 3
  | 1 => 1
  | 2 => 9
  | 3 => 8
  | _ => 6
theorem askE_eq (x : EntD) (a : AskD) : askE x a = if asks x a 0 then 3 else if asks x a 1 then 1 else if asks x a 2 then 9 else if asks x a 3 then 8 else if asks x a 4 then 6 else 0 := by
  simp only [askE, asks, List.length_map, List.any_map]
  simp only [Function.comp_def, papAt]
  simp [papAt]
theorem askE_at {x : EntD} {a : AskD} {i : Nat} (hi : i < 5) (h : asks x a i = true) (hb : ∀ j, j < i → asks x a j = false) : askE x a = codes i := by
  rw [askE_eq]
  match i, hi with
  | 0, _ => simp [h, codes]
  | 1, _ => simp [h, hb 0 (by omega), codes]
  | 2, _ => simp [h, hb 0 (by omega), hb 1 (by omega), codes]
  | 3, _ => simp [h, hb 0 (by omega), hb 1 (by omega), hb 2 (by omega), codes]
  | 4, _ => simp [h, hb 0 (by omega), hb 1 (by omega), hb 2 (by omega), hb 3 (by omega), codes]
theorem askE_ok {x : EntD} {a : AskD} (hb : ∀ j, j < 5 → asks x a j = false) : askE x a = 0 := by
  rw [askE_eq]; simp [hb 0 (by omega), hb 1 (by omega), hb 2 (by omega), hb 3 (by omega), hb 4 (by omega)]
theorem codes_ne (i : Nat) : codes i ≠ 0 := by
  match i with
  | 0 | 1 | 2 | 3 => simp [codes]
  | _ + 4 => simp [codes]
def fnOf : Nat → Nat
  | 0 => 112
  | 1 => 113
  | 2 => 115
  | 3 => 117
  | _ => 119
def pB (b : Nat) : Value := .pointer (some ⟨b, 0, none⟩)
def capsOf (b3 b7 b9 b10 : Nat) : Nat → List Value
  | 0 => [pB b9]
  | 1 => [pB b3]
  | 2 => [pB b7, pB b10, pB b3]
  | 3 => [pB b10, pB b3]
  | _ => [pB b3, pB b10, pB b7]
def askRow (b3 b7 b9 b10 i : Nat) : List Value := [.func (.func (fnOf i)) ⟨[]⟩ ⟨capsOf b3 b7 b9 b10 i⟩, .int .i64 (codes i)]
section
variable {w : World} {a : AskD} {x : EntD} {g : GhostE} {vl : Value} {b3 b7 b9 b10 : Nat}
theorem find_ask (hC : Ctx w a x g vl b3 b7 b9 b10) (hs : a.to_.size ≤ maxLen) {i : Nat} (hi : i < 5) : Ret Tryz.prog (fnOf i) ([] ++ [] ++ capsOf b3 b7 b9 b10 i) w fun v w' => v = .bool (asks x a i) ∧ Ex w w' := by
  match i, hi with
  | 0, _ => exact find_2 hC
  | 1, _ => exact find_3 hC hs
  | 2, _ => exact find_4 hC
  | 3, _ => exact find_5 hC
  | 4, _ => exact find_6 hC
theorem fnOf_fns {i : Nat} (hi : i < 5) : memN T.fns (fnOf i) = true := by
  match i, hi with
  | 0, _ => rfl
  | 1, _ => rfl
  | 2, _ => rfl
  | 3, _ => rfl
  | 4, _ => rfl
end
section
variable {w : World} {p : Nat} {r : RegD} {m : Nat} {gs : List GhostE}
def FindR (r : RegD) (gs : List GhostE) (a : AskD) (w w' : World) (v : Value) : Prop :=
  (askC r a ≠ 0 ∧ v = .tuple #[.pointer none, .slice none 0 0, .int .i64 (askC r a)]) ∨
  ∃ i x g vl, askC r a = 0 ∧ askE x a = 0 ∧ At r gs a.bill i x g ∧ v = .tuple #[.pointer (some ⟨g.e, 0, none⟩), vl, .int .i64 0] ∧ w'.ownsRow w.heap.size 137 1 vl (ixs a.index).length ((ixs a.index).map (ptrP g.e))
theorem reg_find (hR : Rep w p r m gs) (a : AskD) (hs : a.to_.size ≤ maxLen) : Ret Tryz.prog 70 [.pointer (some ⟨p, 0, none⟩), .agg ⟨encA a⟩] w fun v w' => FindR r gs a w w' v ∧ Ex w w' := by
  refine ret_of Tryz.func70 Tryz.ntmps70 rfl rfl rfl ?_
  (repeat (first | refine cw_seq ?_ | refine cw_region ?_))
  refine lw_box rfl ?_
  intro b3 w1 hbb hb3 hx1 hs1
  replace hb3 : Blk w1 b3 (encA a) 136 := hb3
  have hR1 := hR.ex hx1
  obtain ⟨es, hmp, hpm⟩ := hR1.map
  (repeat (first | refine lw_pure hT rfl ?_ | refine lw_nil ?_ | refine cw_seq ?_ | refine qw_then ?_))
  refine cw_draw hM (fun w' => Ex w1 w') [] rfl rfl (by repeat with_reducible (first | refine nop_then ?_ | refine nop_block ?_ | exact nop_body)) (fun w2 hx2 _ => ⟨hx2, ?_⟩)
  (refine rw_takeP 0 rfl rfl (by kernel_rfl) (by kernel_rfl) (by kernel_rfl) (by kernel_rfl) rfl (yo_pure hT rfl) ?_; refine rw_takeP 1 rfl rfl (by kernel_rfl) (by kernel_rfl) (by kernel_rfl) (by kernel_rfl) rfl (yo_pure hT rfl) ?_; refine rw_takeP 2 rfl rfl (by kernel_rfl) (by kernel_rfl) (by kernel_rfl) (by kernel_rfl) rfl (yo_pure hT rfl) ?_)
  refine rw_take 3 rfl rfl (by kernel_rfl) (by kernel_rfl) (by kernel_rfl) (by kernel_rfl) rfl (yo_load hT rfl rfl (fun w' hS => Ex.cell hS (hR1.blk.cell 1))) ?_
  (refine rw_takeP 4 rfl rfl (by kernel_rfl) (by kernel_rfl) (by kernel_rfl) (by kernel_rfl) rfl (yo_pure hT rfl) ?_)
  refine rw_take 5 rfl rfl (by kernel_rfl) (by kernel_rfl) (by kernel_rfl) (by kernel_rfl) rfl (yo_load hT rfl rfl (fun w' hS => Ex.cell hS (hb3.cell 0))) ?_
  rcases hR1.at a.bill with ⟨h1, h2⟩ | ⟨i, x, g, hA⟩
  · refine rw_take 6 rfl rfl (by kernel_rfl) (by kernel_rfl) (by kernel_rfl) (by kernel_rfl) rfl (yo_lookup_ok_none mp78 rfl rfl (fun w' hS => hmp.ex hS) ((hR1.get hpm _).trans h2)) ?_
    (refine rw_takeP 7 rfl rfl (by kernel_rfl) (by kernel_rfl) (by kernel_rfl) (by kernel_rfl) rfl (yo_pure hT rfl) ?_; refine rw_takeP 8 rfl rfl (by kernel_rfl) (by kernel_rfl) (by kernel_rfl) (by kernel_rfl) rfl (yo_pure hT rfl) ?_; refine rw_takeP 9 rfl rfl (by kernel_rfl) (by kernel_rfl) (by kernel_rfl) (by kernel_rfl) rfl (yo_pure hT rfl) ?_)
    refine rw_one 10 rfl (by kernel_rfl) rfl (fun hcl => ?_)
    refine lw_alloc z76 ?_
    intro b7 w3 hbb7 hb7 hx3 hs3
    (repeat (refine lw_nil ?_))
    refine qw_rw (by repeat with_reducible (first | refine nop_then ?_ | refine nop_block ?_ | exact nop_body)) hcl (fun _ => hx2.trans hx3) ?_
    refine rw_one 11 rfl (by kernel_rfl) rfl (fun hcl => ?_)
    refine lw_store (size := 1) hT rfl rfl rfl rfl hb7 (show (0 : Nat) < 1 by decide) ?_
    intro w4 hb7' hx4 hs4
    have hl2 := hx2.size
    have hx14 : Ex w1 w4 := (hx2.trans hx3).up_new hx4 (fun i hi => by omega)
    (repeat (refine lw_nil ?_))
    refine qw_rw (by repeat with_reducible (first | refine nop_then ?_ | refine nop_block ?_ | exact nop_body)) hcl (fun _ => hx14) ?_
    (refine rw_takeP 12 rfl rfl (by kernel_rfl) (by kernel_rfl) (by kernel_rfl) (by kernel_rfl) rfl (yo_pure hT rfl) ?_)
    refine rw_done (by kernel_rfl) ?_
    (repeat (first | refine lw_pure hT rfl ?_ | refine lw_nil ?_ | refine cw_seq ?_ | refine cw_region ?_ | refine qw_then ?_ | refine cw_ret ?_ | refine qw_then_ret ?_ | (refine cw_cond_t rfl ?_ ?_; focus with_reducible (first | rfl | exact Bool.not_false | exact Bool.not_true))))
    refine qw_ret rfl ⟨.inl ?_, hx1.trans hx14⟩
    have e : askC r a = 4 := by simp only [askC, h1]
    rw [e]; exact ⟨by decide, rfl⟩
  · refine rw_take 6 rfl rfl (by kernel_rfl) (by kernel_rfl) (by kernel_rfl) (by kernel_rfl) rfl (yo_lookup_ok_some mp78 rfl rfl (fun w' hS => hmp.ex hS) ((hR1.get hpm _).trans hA.get)) ?_
    have ea : askC r a = askE x a := by simp only [askC, hA.at_]
    (refine rw_takeP 7 rfl rfl (by kernel_rfl) (by kernel_rfl) (by kernel_rfl) (by kernel_rfl) rfl (yo_pure hT rfl) ?_; refine rw_takeP 8 rfl rfl (by kernel_rfl) (by kernel_rfl) (by kernel_rfl) (by kernel_rfl) rfl (yo_pure hT rfl) ?_; refine rw_takeP 9 rfl rfl (by kernel_rfl) (by kernel_rfl) (by kernel_rfl) (by kernel_rfl) rfl (yo_pure hT rfl) ?_)
    refine rw_one 10 rfl (by kernel_rfl) rfl (fun hcl => ?_)
    refine lw_alloc z76 ?_
    intro b7 w3 hbb7 hb7 hx3 hs3
    (repeat (refine lw_nil ?_))
    refine qw_rw (by repeat with_reducible (first | refine nop_then ?_ | refine nop_block ?_ | exact nop_body)) hcl (fun _ => hx2.trans hx3) ?_
    refine rw_one 11 rfl (by kernel_rfl) rfl (fun hcl => ?_)
    refine lw_store (size := 1) hT rfl rfl rfl rfl hb7 (show (0 : Nat) < 1 by decide) ?_
    intro w4 hb7' hx4 hs4
    replace hb7' : Blk w4 b7 [.pointer (some ⟨g.e, 0, none⟩)] 76 := hb7'
    have hl2 := hx2.size
    have hx14 : Ex w1 w4 := (hx2.trans hx3).up_new hx4 (fun i hi => by omega)
    have hl14 := hx14.size
    (repeat (refine lw_nil ?_))
    refine qw_rw (by repeat with_reducible (first | refine nop_then ?_ | refine nop_block ?_ | exact nop_body)) hcl (fun _ => hx14) ?_
    (refine rw_takeP 12 rfl rfl (by kernel_rfl) (by kernel_rfl) (by kernel_rfl) (by kernel_rfl) rfl (yo_pure hT rfl) ?_)
    refine rw_done (by kernel_rfl) ?_
    (repeat (first | refine lw_pure hT rfl ?_ | refine lw_nil ?_ | refine cw_seq ?_ | refine cw_region ?_ | refine qw_then ?_ | refine cw_skip ?_ | (refine cw_cond_f rfl ?_ ?_; focus with_reducible (first | rfl | exact Bool.not_false | exact Bool.not_true))))
    refine lw_load hT rfl rfl (v := .pointer (some ⟨g.e, 0, none⟩)) (hb7'.cell 0) ?_
    (repeat (refine lw_pure hT rfl ?_))
    refine lw_load hT rfl rfl (v := .int .i64 a.index) (Ex.cell hx14 (hb3.cell 2)) ?_
    skip
    refine lw_call hT rfl rfl (reg_chosen w4 g.e a.index) ?_
    rintro vl w5 ⟨hvl, hx5⟩
    have hl5 := hx5.size
    skip
    refine lw_alloc z132 ?_
    intro b9 w6 hbb9 hb9 hx6 hs6
    skip
    refine lw_store (size := 1) hT rfl rfl rfl (own_one hvl) hb9 (show (0 : Nat) < 1 by decide) ?_
    intro w7 hb9' hx7 hs7
    replace hb9' : Blk w7 b9 [vl] 132 := hb9'
    (repeat (first | refine lw_pure hT rfl ?_ | refine lw_nil ?_ | refine cw_seq ?_ | refine cw_region ?_ | refine qw_then ?_))
    refine lw_alloc z168 ?_
    intro b10 w8 hbb10 hb10 hx8 hs8
    skip
    refine lw_store (size := 1) hT rfl rfl rfl rfl hb10 (show (0 : Nat) < 1 by decide) ?_
    intro w9 hb10' hx9 hs9
    have hx57 : Ext (· = b9) w5 w7 := (Ext.of_ex hx6).trans hx7
    have hx79 : Ext (· = b10) w7 w9 := (Ext.of_ex hx8).trans hx9
    have hl6 := hx6.size
    have hl8 := hx8.size
    have hx19 : Ex w1 w9 := ((hx14.trans hx5).up_new hx57 (fun i hi => by omega)).up_new hx79 (fun i hi => by omega)
    have hb3l := hb3.lt
    have hb7l := hb7'.lt
    have hb9l := hb9'.lt
    have hvl9 := own_ext (own_ext hvl hx57 (fun k hk e => by have := own_base hvl hk; omega)) hx79 (fun k hk e => by have := own_base hvl hk; omega)
    have hC : Ctx w9 a x g vl b3 b7 b9 b10 := by
      refine ⟨hb3.ex hx19, ?_, hb9'.ext hx79 (by omega), hb10', (hR1.ents i x g hA.l hA.gi).ex hx19, ?_⟩
      · exact (((hb7'.ex hx5).ext hx57 (by omega)).ext hx79 (by omega))
      · refine own_sl (by rw [List.length_map]; have e : ((ixs a.index).map fun k => [ptrP g.e k]).flatten = (ixs a.index).map (ptrP g.e) := flat_single _ _
                          rw [e]; exact hvl9) (by simp) (fun _ _ => trivial)
    (repeat (first | refine lw_pure hT rfl ?_ | refine lw_nil ?_ | refine cw_seq ?_ | refine cw_region ?_ | refine qw_then ?_))
    refine lw_build bt169 rfl ?_
    (repeat (refine lw_pure hT rfl ?_))
    refine lw_build bt169 rfl ?_
    (repeat (refine lw_pure hT rfl ?_))
    refine lw_build bt169 rfl ?_
    (repeat (refine lw_pure hT rfl ?_))
    refine lw_build bt169 rfl ?_
    (repeat (refine lw_pure hT rfl ?_))
    refine lw_build bt169 rfl ?_
    skip
    refine lw_buildSlice sl172 rfl rfl rfl ?_
    intro b11 w10 hbb11 hb11 hx10 hs10
    replace hb11 : Blk w10 b11 (askRow b3 b7 b9 b10 0 ++ askRow b3 b7 b9 b10 1 ++ askRow b3 b7 b9 b10 2 ++ askRow b3 b7 b9 b10 3 ++ askRow b3 b7 b9 b10 4) 169 := hb11
    have hrd : ∀ i, i < 5 → Rd w10 b11 (0 + i * 2) (askRow b3 b7 b9 b10 i) := by
      intro i hi
      match i, hi with
      | 0, _ => exact hb11.rd 0 2
      | 1, _ => exact hb11.rd 2 2
      | 2, _ => exact hb11.rd 4 2
      | 3, _ => exact hb11.rd 6 2
      | 4, _ => exact hb11.rd 8 2
    (repeat (first | refine lw_pure hT rfl ?_ | refine lw_nil ?_ | refine cw_seq ?_ | refine cw_region ?_ | refine qw_then ?_ | refine cw_block ?_))
    have hx110 : Ex w1 w10 := hx19.trans hx10
    have hl10 := hx110.size
    refine cw_loop (fun i : Nat => [(7, pB b7), (9, pB b9), (42, .slice (some ⟨b11, 0, none⟩) 5 5), (43, .int .i64 (5 : Nat)), (44, .int .i64 (i : Nat))])
      (fun i w' => Ex w10 w' ∧ i ≤ 5 ∧ ∀ j, j < i → asks x a j = false) (fun i => 5 - i) 0 (by repeat (first | exact trivial | refine ⟨rfl, ?_⟩)) ⟨Ext.refl _ _, by omega, fun j hj => by omega⟩ ?_
    rintro k w11 ⟨hx11, hk, hno⟩
    (repeat (first | refine lw_pure hT rfl ?_ | refine lw_nil ?_ | refine cw_seq ?_ | refine cw_region ?_ | refine qw_then ?_))
    refine cw_cond rfl (fun h => ?_) (fun h => ?_)
    · have hlt : k < 5 := by simp at h; omega
      (repeat (first | refine cw_seq ?_ | refine cw_region ?_ | refine qw_then ?_ | refine cw_skip ?_ | refine cw_block ?_))
      refine lw_index hT rfl rfl rfl k rfl hlt ?_
      skip
      refine lw_load_agg hT rfl rfl rfl (vs := askRow b3 b7 b9 b10 k) ((hrd k hlt).ex hx11) ?_
      skip
      refine lw_alloc z169 ?_
      intro b13 w12 hbb13 hb13 hx12 hs12
      skip
      refine lw_store_agg hT rfl rfl rfl rfl (by intro v hv; simp [askRow] at hv; rcases hv with rfl | rfl <;> rfl) hb13 (show (2 : Nat) ≤ 2 by decide) ?_
      intro w13 hb13' hx13 hs13
      replace hb13' : Blk w13 b13 (askRow b3 b7 b9 b10 k) 169 := hb13'
      (repeat (first | refine lw_pure hT rfl ?_ | refine lw_nil ?_ | refine cw_seq ?_ | refine cw_region ?_ | refine qw_then ?_))
      refine lw_load hT rfl rfl (v := .func (.func (fnOf k)) ⟨[]⟩ ⟨capsOf b3 b7 b9 b10 k⟩) (hb13'.cell 0) ?_
      skip
      have hl11 := hx11.size
      have hx1013 : Ex w10 w13 := (hx11.trans hx12).up_new hx13 (fun i hi => by omega)
      refine lw_call_fn hT rfl (fnOf_fns hlt) rfl (find_ask ((hC.ex hx10).ex hx1013) hs hlt) ?_
      rintro _ w14 ⟨rfl, hx14'⟩
      (repeat (first | refine lw_nil ?_ | refine qw_then ?_))
      refine cw_cond rfl (fun h' => ?_) (fun h' => ?_)
      · (repeat (refine cw_seq ?_))
        refine cw_draw hM (fun w' => Ex w14 w') [] rfl rfl (by repeat with_reducible (first | refine nop_then ?_ | refine nop_block ?_ | exact nop_body)) (fun w15 hx15 _ => ⟨hx15, ?_⟩)
        (refine rw_takeP 0 rfl rfl (by kernel_rfl) (by kernel_rfl) (by kernel_rfl) (by kernel_rfl) rfl (yo_pure hT rfl) ?_)
        refine rw_take 1 rfl rfl (by kernel_rfl) (by kernel_rfl) (by kernel_rfl) (by kernel_rfl) rfl (yo_load hT rfl rfl (v := .int .i64 (codes k)) (fun w' hS => Ex.cell hS ((hb13'.ex hx14').cell 1))) ?_
        (refine rw_takeP 2 rfl rfl (by kernel_rfl) (by kernel_rfl) (by kernel_rfl) (by kernel_rfl) rfl (yo_pure hT rfl) ?_; refine rw_takeP 3 rfl rfl (by kernel_rfl) (by kernel_rfl) (by kernel_rfl) (by kernel_rfl) rfl (yo_pure hT rfl) ?_; refine rw_takeP 4 rfl rfl (by kernel_rfl) (by kernel_rfl) (by kernel_rfl) (by kernel_rfl) rfl (yo_pure hT rfl) ?_)
        refine rw_done (by kernel_rfl) ?_
        (repeat (first | refine qw_then ?_ | refine cw_ret ?_ | refine qw_then_ret ?_ | refine qw_block_ret ?_))
        refine qw_ret rfl ⟨.inl ?_, ((((hx1.trans hx110).trans hx1013).trans hx14').trans hx15)⟩
        rw [ea, askE_at hlt h' hno]
        exact ⟨codes_ne k, rfl⟩
      · (repeat (first | (refine lw_add rfl rfl ?_ ?_ ?_; iterate 2 omega) | refine lw_pure hT rfl ?_ | refine lw_nil ?_ | refine cw_region ?_ | refine qw_then ?_ | refine cw_skip ?_ | refine qw_block ?_))
        refine qw_round (k + 1) (by repeat (first | exact trivial | refine ⟨rfl, ?_⟩)) ⟨hx1013.trans hx14', by omega, ?_⟩ (by omega)
        intro j hj
        by_cases e : j = k
        · subst e; exact h'
        · exact hno j (by omega)
    · have : k = 5 := by simp at h; omega
      subst this
      have hC' := (hC.ex hx10).ex hx11
      (repeat (first | refine cw_seq ?_ | refine qw_then ?_ | refine cw_exit ?_ | refine qw_block_exit ?_ | refine qw_then_exit ?_))
      refine cw_draw hM (fun w' => Ex w11 w') [] rfl rfl (by repeat with_reducible (first | refine nop_then ?_ | refine nop_block ?_ | exact nop_body)) (fun w15 hx15 _ => ⟨hx15, ?_⟩)
      refine rw_take 0 rfl rfl (by kernel_rfl) (by kernel_rfl) (by kernel_rfl) (by kernel_rfl) rfl (yo_load hT rfl rfl (fun w' hS => Ex.cell hS (hC'.ent.cell 0))) ?_
      refine rw_take 1 rfl rfl (by kernel_rfl) (by kernel_rfl) (by kernel_rfl) (by kernel_rfl) rfl (yo_load hT rfl rfl (fun w' hS => Ex.cell hS (hC'.lst.cell 0))) ?_
      (refine rw_takeP 2 rfl rfl (by kernel_rfl) (by kernel_rfl) (by kernel_rfl) (by kernel_rfl) rfl (yo_pure hT rfl) ?_; refine rw_takeP 3 rfl rfl (by kernel_rfl) (by kernel_rfl) (by kernel_rfl) (by kernel_rfl) rfl (yo_pure hT rfl) ?_; refine rw_takeP 4 rfl rfl (by kernel_rfl) (by kernel_rfl) (by kernel_rfl) (by kernel_rfl) rfl (yo_pure hT rfl) ?_)
      refine rw_done (by kernel_rfl) ?_
      (repeat (first | refine qw_then ?_ | refine cw_ret ?_))
      have e0 := askE_ok (x := x) (a := a) hno
      refine qw_ret rfl ⟨.inr ⟨i, x, g, vl, by rw [ea, e0], e0, hA, rfl, ?_⟩, (((hx1.trans hx110).trans hx11).trans hx15)⟩
      exact own_mono (own_ex (own_ex (own_ex hvl9 hx10) hx11) hx15) (by have := hx1.size; omega)
end
end Go.Proofs.YtnglkhnfmbnfeaaGreat
