/- Contracts of the reference on names and marks: the same functions of the text as package mark. -/
import Derived.Test.YtfbjpfgglgffgaaGreatCa
set_option linter.unusedVariables false
set_option linter.unusedSimpArgs false
set_option linter.unusedSectionVars false
set_option linter.unnecessarySimpa false
namespace Go.Proofs.YtfbjpfgglgffgaaGreat
open Go Go.SK

theorem r_letter (c : Int) (w : World) : Ret Tryz.prog 121 [.int .u8 c] w fun v w' => v = .bool (lowB c) ∧ w = w' := by
  refine ret_of Tryz.func121 Tryz.ntmps121 rfl rfl rfl ?_
  (repeat (first | refine lw_pure hT rfl ?_ | refine lw_nil ?_ | refine cw_seq ?_ | refine cw_region ?_ | refine qw_then ?_))
  refine lw_guard rfl (fun h => ?_) (fun h => ?_) <;> (repeat (first | refine lw_pure hT rfl ?_ | refine lw_nil ?_ | refine qw_then ?_ | refine cw_ret ?_ | (refine lw_gon_t rfl ?_ ?_; focus (first | with_reducible rfl | with_reducible exact Bool.not_false | with_reducible exact Bool.not_true)) | (refine lw_goff_f rfl ?_ ?_; focus (first | with_reducible rfl | with_reducible exact Bool.not_false | with_reducible exact Bool.not_true)))) <;> refine qw_ret rfl ⟨?_, rfl⟩ <;> simp at h <;> simp [oneOr, lowB, h]
  omega
theorem r_digit (c : Int) (w : World) : Ret Tryz.prog 122 [.int .u8 c] w fun v w' => v = .bool (digB c) ∧ w = w' := by
  refine ret_of Tryz.func122 Tryz.ntmps122 rfl rfl rfl ?_
  (repeat (first | refine lw_pure hT rfl ?_ | refine lw_nil ?_ | refine cw_seq ?_ | refine cw_region ?_ | refine qw_then ?_))
  refine lw_guard rfl (fun h => ?_) (fun h => ?_) <;> (repeat (first | refine lw_pure hT rfl ?_ | refine lw_nil ?_ | refine qw_then ?_ | refine cw_ret ?_ | (refine lw_gon_t rfl ?_ ?_; focus (first | with_reducible rfl | with_reducible exact Bool.not_false | with_reducible exact Bool.not_true)) | (refine lw_goff_f rfl ?_ ?_; focus (first | with_reducible rfl | with_reducible exact Bool.not_false | with_reducible exact Bool.not_true)))) <;> refine qw_ret rfl ⟨?_, rfl⟩ <;> simp at h <;> simp [oneOr, digB, h]
  omega
set_option maxHeartbeats 400000 in
theorem r_Name (s : ByteArray) (w : World) (hs : s.size ≤ maxLen) : Ret Tryz.prog 100 [.string s] w fun v w' => v = .bool (nameB s) ∧ w = w' := by
  unfold maxLen at hs
  refine ret_of Tryz.func100 Tryz.ntmps100 rfl rfl rfl ?_
  (repeat (first | refine lw_pure hT rfl ?_ | refine lw_nil ?_ | refine cw_seq ?_ | refine cw_region ?_ | refine qw_then ?_ | refine cw_block ?_))
  refine cw_loop (fun i : Nat => [(0, .string s), (3, .int .i64 (i : Nat))]) (fun i w' => w = w' ∧ i ≤ s.size ∧ ((bs s).take i).all signB = true) (fun i => s.size - i) 0 (by repeat (first | exact trivial | refine ⟨rfl, ?_⟩)) ⟨rfl, Nat.zero_le _, by simp⟩ ?_
  rintro i _ ⟨rfl, hi, ha⟩
  (repeat (first | refine lw_pure hT rfl ?_ | refine lw_nil ?_ | refine cw_seq ?_ | refine cw_region ?_ | refine qw_then ?_))
  refine cw_cond rfl (fun h => ?_) (fun h => ?_)
  · have hlt : i < s.size := by simpa using h
    have hno : signB (s[i].toNat : Int) = false → nameB s = false := fun h => by
      rw [nameB, all_split (bs_get s i hlt), h]; simp
    have hyes : signB (s[i].toNat : Int) = true → ((bs s).take (i + 1)).all signB = true := fun h => by rw [take_all_succ (bs_get s i hlt), ha, h]; rfl
    (repeat (first | refine lw_pure hT rfl ?_ | refine cw_seq ?_ | refine cw_region ?_ | refine qw_then ?_ | refine cw_skip ?_ | refine cw_block ?_))
    refine lw_byte hT rfl rfl rfl i rfl hlt ?_
    skip
    refine lw_call hT rfl rfl (r_letter _ _) ?_
    rintro _ _ ⟨rfl, rfl⟩
    (repeat (refine lw_pure hT rfl ?_))
    refine lw_guard rfl (fun h1 => ?_) (fun h1 => ?_)
    · rw [Bool.not_eq_true'] at h1
      (repeat (first | refine lw_pure hT rfl ?_ | (refine lw_gon_t rfl ?_ ?_; focus (first | with_reducible rfl | with_reducible exact Bool.not_false | with_reducible exact Bool.not_true))))
      refine lw_byte hT rfl rfl rfl i rfl hlt ?_
      (repeat (refine lw_gon_t rfl ?_ ?_; focus (first | with_reducible rfl | with_reducible exact Bool.not_false | with_reducible exact Bool.not_true)))
      refine lw_call hT rfl rfl (r_digit _ _) ?_
      rintro _ _ ⟨rfl, rfl⟩
      (repeat (first | refine lw_pure hT rfl ?_ | (refine lw_gon_t rfl ?_ ?_; focus (first | with_reducible rfl | with_reducible exact Bool.not_false | with_reducible exact Bool.not_true))))
      refine lw_guard rfl (fun h2 => ?_) (fun h2 => ?_)
      · rw [Bool.not_eq_true'] at h2
        (repeat (first | refine lw_pure hT rfl ?_ | (refine lw_gon_t rfl ?_ ?_; focus (first | with_reducible rfl | with_reducible exact Bool.not_false | with_reducible exact Bool.not_true))))
        refine lw_byte hT rfl rfl rfl i rfl hlt ?_
        (repeat (first | refine lw_pure hT rfl ?_ | refine lw_nil ?_ | refine qw_then ?_ | (refine lw_gon_t rfl ?_ ?_; focus (first | with_reducible rfl | with_reducible exact Bool.not_false | with_reducible exact Bool.not_true))))
        refine cw_cond rfl (fun h3 => ?_) (fun h3 => ?_)
        · (repeat (first | refine lw_pure hT rfl ?_ | refine lw_nil ?_ | refine cw_seq ?_ | refine cw_region ?_ | refine qw_then ?_ | refine cw_ret ?_ | refine qw_then_ret ?_ | refine qw_block_ret ?_))
          exact qw_ret rfl ⟨by rw [hno (by simp at h3; simp [signB, h1, h2, h3])]; rfl, rfl⟩
        · (repeat (first | (refine lw_add rfl rfl ?_ ?_ ?_; iterate 2 omega) | refine lw_pure hT rfl ?_ | refine lw_nil ?_ | refine cw_region ?_ | refine qw_then ?_ | refine cw_skip ?_ | refine qw_block ?_))
          exact qw_round (i + 1) (by repeat (first | exact trivial | refine ⟨rfl, ?_⟩)) ⟨rfl, hlt, hyes (by simp at h3; simp [signB, h3])⟩ (by omega)
      · rw [Bool.not_eq_false'] at h2
        (repeat (first | (refine lw_add rfl rfl ?_ ?_ ?_; iterate 2 omega) | refine lw_pure hT rfl ?_ | refine lw_nil ?_ | refine cw_region ?_ | refine qw_then ?_ | refine cw_skip ?_ | (refine lw_goff_f rfl ?_ ?_; focus (first | with_reducible rfl | with_reducible exact Bool.not_false | with_reducible exact Bool.not_true)) | refine qw_block ?_ | (refine cw_cond_f rfl ?_ ?_; focus (first | with_reducible rfl | with_reducible exact Bool.not_false | with_reducible exact Bool.not_true))))
        exact qw_round (i + 1) (by repeat (first | exact trivial | refine ⟨rfl, ?_⟩)) ⟨rfl, hlt, hyes (by simp [signB, h2])⟩ (by omega)
    · rw [Bool.not_eq_false'] at h1
      (repeat (first | (refine lw_add rfl rfl ?_ ?_ ?_; iterate 2 omega) | refine lw_pure hT rfl ?_ | refine lw_nil ?_ | refine cw_region ?_ | refine qw_then ?_ | refine cw_skip ?_ | (refine lw_goff_f rfl ?_ ?_; focus (first | with_reducible rfl | with_reducible exact Bool.not_false | with_reducible exact Bool.not_true)) | refine qw_block ?_ | (refine cw_cond_f rfl ?_ ?_; focus (first | with_reducible rfl | with_reducible exact Bool.not_false | with_reducible exact Bool.not_true))))
      exact qw_round (i + 1) (by repeat (first | exact trivial | refine ⟨rfl, ?_⟩)) ⟨rfl, hlt, hyes (by simp [signB, h1])⟩ (by omega)
  · have : i = s.size := by simp at h; omega
    subst this
    rw [List.take_of_length_le (by rw [bs_length]; exact Nat.le_refl _)] at ha
    (repeat (first | refine lw_pure hT rfl ?_ | refine cw_seq ?_ | refine cw_region ?_ | refine qw_then ?_ | refine cw_exit ?_ | refine qw_block_exit ?_ | refine qw_then_exit ?_))
    refine lw_guard rfl (fun h1 => ?_) (fun h1 => ?_)
    · have h1 : 1 ≤ s.size := by simp at h1; omega
      (repeat (first | refine lw_pure hT rfl ?_ | refine lw_nil ?_ | refine qw_then ?_ | refine cw_ret ?_ | (refine lw_gon_t rfl ?_ ?_; focus (first | with_reducible rfl | with_reducible exact Bool.not_false | with_reducible exact Bool.not_true))))
      refine qw_ret rfl ⟨?_, rfl⟩
      simp [oneOr, nameB, h1, ha]; omega
    · have h1 : ¬ 1 ≤ s.size := by simp at h1; omega
      (repeat (first | refine lw_pure hT rfl ?_ | refine lw_nil ?_ | refine qw_then ?_ | refine cw_ret ?_ | (refine lw_goff_f rfl ?_ ?_; focus (first | with_reducible rfl | with_reducible exact Bool.not_false | with_reducible exact Bool.not_true))))
      exact qw_ret rfl ⟨by simp [oneOr, nameB, h1], rfl⟩

theorem headB_false {l : List Int} {i : Nat} (hi : i < 10) (h : (i < 4 ∧ lowB (l.getD i 0) = false) ∨ (4 ≤ i ∧ digB (l.getD i 0) = false)) : headB l = false := by
  cases hb : headB l with
  | false => rfl
  | true =>
    simp only [headB, Bool.and_eq_true, decide_eq_true_eq] at hb
    obtain ⟨h1, h2, h3⟩ := hb
    rcases h with ⟨h4, h5⟩ | ⟨h4, h5⟩
    · have := all_get h2 (i := i) (by simp; omega)
      rw [show (l.take 4).getD i 0 = l.getD i 0 from by simp [List.getD_eq_getElem?_getD, List.getElem?_take, h4], h5] at this
      cases this
    · have := all_get h3 (i := i - 4) (by simp; omega)
      have e : 4 + (i - 4) = i := by omega
      rw [show ((l.drop 4).take 6).getD (i - 4) 0 = l.getD i 0 from by simp [List.getD_eq_getElem?_getD, List.getElem?_take, List.getElem?_drop, show i - 4 < 6 by omega, e], h5] at this
      cases this
theorem all_of_get {p : Int → Bool} {l : List Int} (h : ∀ i, i < l.length → p (l.getD i 0) = true) : l.all p = true := by
  rw [List.all_eq_true]
  intro x hx
  obtain ⟨i, hi, rfl⟩ := List.mem_iff_getElem.1 hx
  have := h i hi
  rwa [List.getD_eq_getElem?_getD, List.getElem?_eq_getElem hi] at this
theorem headB_true {l : List Int} (hl : 10 ≤ l.length) (h : ∀ i, i < 10 → (i < 4 → lowB (l.getD i 0) = true) ∧ (4 ≤ i → digB (l.getD i 0) = true)) : headB l = true := by
  simp only [headB, Bool.and_eq_true, decide_eq_true_eq]
  refine ⟨hl, all_of_get fun i hi => ?_, all_of_get fun i hi => ?_⟩
  · simp only [List.length_take] at hi
    have := (h i (by omega)).1 (by omega)
    simpa [List.getD_eq_getElem?_getD, List.getElem?_take, show i < 4 by omega] using this
  · simp only [List.length_take, List.length_drop] at hi
    have := (h (4 + i) (by omega)).2 (by omega)
    simpa [List.getD_eq_getElem?_getD, List.getElem?_take, List.getElem?_drop, show i < 6 by omega] using this
set_option maxHeartbeats 400000 in
theorem r_head (s : ByteArray) (w : World) (hs : s.size ≤ maxLen) : Ret Tryz.prog 130 [.string s] w fun v w' => v = .bool (headB (bs s)) ∧ w = w' := by
  unfold maxLen at hs
  refine ret_of Tryz.func130 Tryz.ntmps130 rfl rfl rfl ?_
  (repeat (first | refine lw_pure hT rfl ?_ | refine lw_nil ?_ | refine cw_seq ?_ | refine cw_region ?_ | refine qw_then ?_))
  refine cw_cond rfl (fun h => ?_) (fun h => ?_)
  · have h1 : ¬ 10 ≤ (bs s).length := by rw [bs_length]; simp at h; omega
    (repeat (first | refine lw_pure hT rfl ?_ | refine lw_nil ?_ | refine cw_seq ?_ | refine cw_region ?_ | refine qw_then ?_ | refine cw_ret ?_ | refine qw_then_ret ?_))
    exact qw_ret rfl ⟨by simp [oneOr, headB, h1], rfl⟩
  · have h1 : 10 ≤ s.size := by simp at h; omega
    (repeat (first | refine lw_pure hT rfl ?_ | refine lw_nil ?_ | refine cw_seq ?_ | refine cw_region ?_ | refine qw_then ?_ | refine cw_skip ?_ | refine cw_block ?_))
    refine cw_loop (fun i : Nat => [(0, .string s), (3, .int .i64 (i : Nat))]) (fun i w' => w = w' ∧ i ≤ 10 ∧ ∀ j, j < i → (j < 4 → lowB ((bs s).getD j 0) = true) ∧ (4 ≤ j → digB ((bs s).getD j 0) = true)) (fun i => 10 - i) 0 (by repeat (first | exact trivial | refine ⟨rfl, ?_⟩)) ⟨rfl, Nat.zero_le _, fun j hj => by omega⟩ ?_
    rintro i _ ⟨rfl, hi, ha⟩
    (repeat (first | refine lw_pure hT rfl ?_ | refine lw_nil ?_ | refine cw_seq ?_ | refine cw_region ?_ | refine qw_then ?_))
    refine cw_cond rfl (fun h => ?_) (fun h => ?_)
    · have hi' : i < 10 := by simp at h; omega
      have hlt : i < s.size := by omega
      have eb := bs_getD s i hlt
      have hno := fun x => headB_false (l := bs s) hi' x
      rw [eb] at hno
      have hyes : (i < 4 → lowB (s[i].toNat : Int) = true) ∧ (4 ≤ i → digB (s[i].toNat : Int) = true) → ∀ j, j < i + 1 → (j < 4 → lowB ((bs s).getD j 0) = true) ∧ (4 ≤ j → digB ((bs s).getD j 0) = true) := fun hx j hj => by
        by_cases e : j = i
        · subst e; rw [eb]; exact hx
        · exact ha j (by omega)
      clear ha eb
      (repeat (first | refine lw_pure hT rfl ?_ | refine cw_seq ?_ | refine cw_region ?_ | refine qw_then ?_ | refine cw_skip ?_ | refine cw_block ?_))
      refine lw_guard rfl (fun h2 => ?_) (fun h2 => ?_)
      · have h2 : i < 4 := by simp at h2; omega
        (repeat (first | refine lw_pure hT rfl ?_ | (refine lw_gon_t rfl ?_ ?_; focus (first | with_reducible rfl | with_reducible exact Bool.not_false | with_reducible exact Bool.not_true))))
        refine lw_byte hT rfl rfl rfl i rfl hlt ?_
        (repeat (refine lw_gon_t rfl ?_ ?_; focus (first | with_reducible rfl | with_reducible exact Bool.not_false | with_reducible exact Bool.not_true)))
        refine lw_call hT rfl rfl (r_letter _ _) ?_
        rintro _ _ ⟨rfl, rfl⟩
        (repeat (first | refine lw_pure hT rfl ?_ | (refine lw_gon_t rfl ?_ ?_; focus (first | with_reducible rfl | with_reducible exact Bool.not_false | with_reducible exact Bool.not_true))))
        refine lw_guard rfl (fun h3 => ?_) (fun h3 => ?_)
        · rw [Bool.not_eq_true'] at h3
          (repeat (first | refine lw_pure hT rfl ?_ | refine lw_nil ?_ | refine cw_seq ?_ | refine cw_region ?_ | refine qw_then ?_ | refine cw_ret ?_ | refine qw_then_ret ?_ | refine lw_goff_u rfl ?_ | (refine lw_goff_t rfl ?_ ?_; focus (first | with_reducible rfl | with_reducible exact Bool.not_false | with_reducible exact Bool.not_true)) | refine qw_block_ret ?_ | (refine cw_cond_t rfl ?_ ?_; focus (first | with_reducible rfl | with_reducible exact Bool.not_false | with_reducible exact Bool.not_true))))
          exact qw_ret rfl ⟨by rw [hno (.inl ⟨h2, h3⟩)]; rfl, rfl⟩
        · rw [Bool.not_eq_false'] at h3
          (repeat (first | refine lw_pure hT rfl ?_ | (refine lw_gon_f rfl ?_ ?_; focus (first | with_reducible rfl | with_reducible exact Bool.not_false | with_reducible exact Bool.not_true))))
          refine lw_guard rfl (fun h4 => ?_) (fun _ => ?_)
          · simp at h4; omega
          · (repeat (first | (refine lw_add rfl rfl ?_ ?_ ?_; iterate 2 omega) | refine lw_pure hT rfl ?_ | refine lw_nil ?_ | refine cw_region ?_ | refine qw_then ?_ | refine cw_skip ?_ | (refine lw_goff_f rfl ?_ ?_; focus (first | with_reducible rfl | with_reducible exact Bool.not_false | with_reducible exact Bool.not_true)) | (refine lw_gon_f rfl ?_ ?_; focus (first | with_reducible rfl | with_reducible exact Bool.not_false | with_reducible exact Bool.not_true)) | refine qw_block ?_ | (refine cw_cond_f rfl ?_ ?_; focus (first | with_reducible rfl | with_reducible exact Bool.not_false | with_reducible exact Bool.not_true))))
            exact qw_round (i + 1) (by repeat (first | exact trivial | refine ⟨rfl, ?_⟩)) ⟨rfl, by omega, hyes ⟨fun _ => h3, fun _ => by omega⟩⟩ (by omega)
      · have h2 : 4 ≤ i := by simp at h2; omega
        (repeat (first | refine lw_pure hT rfl ?_ | (refine lw_goff_f rfl ?_ ?_; focus (first | with_reducible rfl | with_reducible exact Bool.not_false | with_reducible exact Bool.not_true)) | (refine lw_gon_f rfl ?_ ?_; focus (first | with_reducible rfl | with_reducible exact Bool.not_false | with_reducible exact Bool.not_true))))
        refine lw_guard rfl (fun _ => ?_) (fun h4 => ?_)
        · (repeat (first | refine lw_pure hT rfl ?_ | (refine lw_gon_t rfl ?_ ?_; focus (first | with_reducible rfl | with_reducible exact Bool.not_false | with_reducible exact Bool.not_true))))
          refine lw_byte hT rfl rfl rfl i rfl hlt ?_
          (repeat (refine lw_gon_t rfl ?_ ?_; focus (first | with_reducible rfl | with_reducible exact Bool.not_false | with_reducible exact Bool.not_true)))
          refine lw_call hT rfl rfl (r_digit _ _) ?_
          rintro _ _ ⟨rfl, rfl⟩
          (repeat (first | refine lw_pure hT rfl ?_ | refine lw_nil ?_ | refine qw_then ?_ | (refine lw_gon_t rfl ?_ ?_; focus (first | with_reducible rfl | with_reducible exact Bool.not_false | with_reducible exact Bool.not_true)) | (refine lw_gon_f rfl ?_ ?_; focus (first | with_reducible rfl | with_reducible exact Bool.not_false | with_reducible exact Bool.not_true))))
          refine cw_cond rfl (fun h3 => ?_) (fun h3 => ?_)
          · rw [Bool.not_eq_true'] at h3
            (repeat (first | refine lw_pure hT rfl ?_ | refine lw_nil ?_ | refine cw_seq ?_ | refine cw_region ?_ | refine qw_then ?_ | refine cw_ret ?_ | refine qw_then_ret ?_ | refine qw_block_ret ?_))
            exact qw_ret rfl ⟨by rw [hno (.inr ⟨h2, h3⟩)]; rfl, rfl⟩
          · rw [Bool.not_eq_false'] at h3
            (repeat (first | (refine lw_add rfl rfl ?_ ?_ ?_; iterate 2 omega) | refine lw_pure hT rfl ?_ | refine lw_nil ?_ | refine cw_region ?_ | refine qw_then ?_ | refine cw_skip ?_ | refine qw_block ?_))
            exact qw_round (i + 1) (by repeat (first | exact trivial | refine ⟨rfl, ?_⟩)) ⟨rfl, by omega, hyes ⟨fun _ => by omega, fun _ => h3⟩⟩ (by omega)
        · simp at h4; omega
    · have : i = 10 := by simp at h; omega
      subst this
      (repeat (first | refine lw_pure hT rfl ?_ | refine lw_nil ?_ | refine cw_seq ?_ | refine cw_region ?_ | refine qw_then ?_ | refine cw_ret ?_ | refine cw_exit ?_ | refine qw_block_exit ?_ | refine qw_then_exit ?_))
      exact qw_ret rfl ⟨by rw [headB_true (by rw [bs_length]; exact h1) ha]; rfl, rfl⟩

theorem head_low {l : List Int} (h : headB l = true) {i : Nat} (hi : i < 4) : lowB (l.getD i 0) = true := by
  simp only [headB, Bool.and_eq_true, decide_eq_true_eq] at h
  have := all_get h.2.1 (i := i) (by simp; omega)
  simpa [List.getD_eq_getElem?_getD, List.getElem?_take, hi] using this
theorem head_dig {l : List Int} (h : headB l = true) {i : Nat} (h4 : 4 ≤ i) (hi : i < 10) : digB (l.getD i 0) = true := by
  simp only [headB, Bool.and_eq_true, decide_eq_true_eq] at h
  have := all_get h.2.2 (i := i - 4) (by simp; omega)
  have e : 4 + (i - 4) = i := by omega
  simpa [List.getD_eq_getElem?_getD, List.getElem?_take, List.getElem?_drop, show i - 4 < 6 by omega, e] using this
theorem val_low {c : Int} (h : lowB c = true) : valI c = c - 96 ∧ 97 ≤ c ∧ c ≤ 122 := by
  have : 97 ≤ c ∧ c ≤ 122 := by simpa [lowB] using h
  simp [valI, h]; omega
theorem val_dig {c : Int} (h : digB c = true) : valI c = c - 48 ∧ 48 ≤ c ∧ c ≤ 57 := by
  have h' : 48 ≤ c ∧ c ≤ 57 := by simpa [digB] using h
  have : lowB c = false := by simp [lowB]; omega
  simp [valI, this, h']
set_option maxHeartbeats 800000 in
theorem r_Sum (s : ByteArray) (w : World) (hs : s.size ≤ maxLen) : Ret Tryz.prog 131 [.string s] w fun v w' => v = .int .i64 (sumI (bs s)) ∧ w = w' := by
  refine ret_of Tryz.func131 Tryz.ntmps131 rfl rfl rfl ?_
  (repeat (first | refine lw_pure hT rfl ?_ | refine lw_nil ?_ | refine cw_seq ?_ | refine cw_region ?_ | refine qw_then ?_))
  refine lw_call hT rfl rfl (r_head s w hs) ?_
  rintro _ _ ⟨rfl, rfl⟩
  (repeat (first | refine lw_pure hT rfl ?_ | refine lw_nil ?_ | refine qw_then ?_))
  refine cw_cond rfl (fun h => ?_) (fun hh => ?_)
  · rw [Bool.not_eq_true'] at h
    (repeat (first | refine lw_pure hT rfl ?_ | refine lw_nil ?_ | refine cw_seq ?_ | refine cw_region ?_ | refine qw_then ?_ | refine cw_ret ?_ | refine qw_then_ret ?_))
    exact qw_ret rfl ⟨by simp [oneOr, sumI, h], rfl⟩
  · rw [Bool.not_eq_false'] at hh
    have h10 : 10 ≤ s.size := by
      have := hh
      simp only [headB, Bool.and_eq_true, decide_eq_true_eq, bs_length] at this
      exact this.1
    (repeat (first | refine lw_pure hT rfl ?_ | refine lw_nil ?_ | refine cw_seq ?_ | refine cw_region ?_ | refine qw_then ?_ | refine cw_skip ?_ | refine cw_block ?_))
    refine cw_loop (fun i : Nat => [(0, .string s), (3, .int .i64 (sumTo (bs s) i)), (4, .int .i64 (i : Nat))]) (fun i w' => w = w' ∧ i ≤ 10) (fun i => 10 - i) 0 (by repeat (first | exact trivial | refine ⟨rfl, ?_⟩)) ⟨rfl, by omega⟩ ?_
    rintro i _ ⟨rfl, hi⟩
    (repeat (first | refine lw_pure hT rfl ?_ | refine lw_nil ?_ | refine cw_seq ?_ | refine cw_region ?_ | refine qw_then ?_))
    refine cw_cond rfl (fun h => ?_) (fun h => ?_)
    · have hi' : i < 10 := by simp at h; omega
      have hlt : i < s.size := by omega
      have hb := sumTo_bd hh i (by omega)
      have eb := bs_getD s i hlt
      have hc0 : (0 : Int) ≤ (s[i].toNat : Int) ∧ (s[i].toNat : Int) ≤ 255 := by
        have := UInt8.toNat_lt s[i]; omega
      by_cases h4 : i < 4
      · have hv := val_low (eb ▸ head_low hh h4)
        have hvb := valI_bd (.inl (eb ▸ head_low hh h4))
        have hm1 : 0 ≤ ((s[i].toNat : Int) - 96) * ((i : Int) + 1) := Int.mul_nonneg (by omega) (by omega)
        have hm2 : ((s[i].toNat : Int) - 96) * ((i : Int) + 1) ≤ 26 * 10 := Int.mul_le_mul (by omega) (by omega) (by omega) (by omega)
        have e1 := hv.1
        have e2 := hv.2
        clear hv hvb
        (repeat (first | refine lw_pure hT rfl ?_ | refine cw_seq ?_ | refine cw_region ?_ | refine qw_then ?_ | refine cw_skip ?_ | refine cw_block ?_))
        refine lw_byte hT rfl rfl rfl i rfl hlt ?_
        (repeat (first | (refine lw_conv64 hT rfl rfl rfl ?_ ?_ ?_; iterate 2 omega) | (refine lw_sub rfl rfl ?_ ?_ ?_; iterate 2 omega) | refine lw_pure hT rfl ?_ | refine lw_nil ?_ | refine cw_seq ?_ | refine cw_region ?_ | refine qw_then ?_))
        refine cw_cond rfl (fun h => ?_) (fun h => ?_)
        · (repeat (first | refine lw_pure hT rfl ?_ | refine cw_region ?_))
          refine lw_byte hT rfl rfl rfl i rfl hlt ?_
          (repeat (first | (refine lw_conv64 hT rfl rfl rfl ?_ ?_ ?_; iterate 2 omega) | (refine lw_add rfl rfl ?_ ?_ ?_; iterate 2 omega) | (refine lw_sub rfl rfl ?_ ?_ ?_; iterate 2 omega) | (refine lw_mul rfl rfl ?_ ?_ ?_; iterate 2 omega) | refine lw_pure hT rfl ?_ | refine lw_nil ?_ | refine cw_region ?_ | refine qw_then ?_ | refine qw_block ?_))
          refine qw_round (i + 1) ?_ ⟨rfl, by omega⟩ (by omega)
          simp only [subB, sumTo, eb, e1]
          exact (by repeat (first | exact trivial | refine ⟨rfl, ?_⟩))
        · simp at h; omega
      · have hv := val_dig (eb ▸ head_dig hh (by omega) hi')
        have hm1 : 0 ≤ ((s[i].toNat : Int) - 48) * ((i : Int) + 1) := Int.mul_nonneg (by omega) (by omega)
        have hm2 : ((s[i].toNat : Int) - 48) * ((i : Int) + 1) ≤ 26 * 10 := Int.mul_le_mul (by omega) (by omega) (by omega) (by omega)
        have e1 := hv.1
        have e2 := hv.2
        clear hv
        (repeat (first | refine lw_pure hT rfl ?_ | refine cw_seq ?_ | refine cw_region ?_ | refine qw_then ?_ | refine cw_skip ?_ | refine cw_block ?_))
        refine lw_byte hT rfl rfl rfl i rfl hlt ?_
        (repeat (first | (refine lw_conv64 hT rfl rfl rfl ?_ ?_ ?_; iterate 2 omega) | (refine lw_sub rfl rfl ?_ ?_ ?_; iterate 2 omega) | refine lw_pure hT rfl ?_ | refine lw_nil ?_ | refine cw_seq ?_ | refine cw_region ?_ | refine qw_then ?_))
        refine cw_cond rfl (fun h => ?_) (fun h => ?_)
        · simp at h; omega
        · (repeat (first | (refine lw_add rfl rfl ?_ ?_ ?_; iterate 2 omega) | (refine lw_mul rfl rfl ?_ ?_ ?_; iterate 2 omega) | refine lw_pure hT rfl ?_ | refine lw_nil ?_ | refine cw_region ?_ | refine qw_then ?_ | refine cw_skip ?_ | refine qw_block ?_))
          refine qw_round (i + 1) ?_ ⟨rfl, by omega⟩ (by omega)
          simp only [subB, sumTo, eb, e1]
          exact (by repeat (first | exact trivial | refine ⟨rfl, ?_⟩))
    · have : i = 10 := by simp at h; omega
      subst this
      (repeat (first | refine lw_pure hT rfl ?_ | refine cw_seq ?_ | refine cw_region ?_ | refine qw_then ?_ | refine cw_exit ?_ | refine qw_block_exit ?_ | refine qw_then_exit ?_))
      refine lw_rem rfl rfl (by decide) ?_
      (repeat (first | refine lw_pure hT rfl ?_ | refine lw_nil ?_ | refine qw_then ?_ | refine cw_ret ?_))
      exact qw_ret rfl ⟨by simp [oneOr, sumI, hh], rfl⟩

theorem rightB_eq {s : ByteArray} (h : s.size = 12) : rightB s = (headB (bs s) && (digB ((bs s).getD 10 0) && (digB ((bs s).getD 11 0) && decide (sumI (bs s) = 10 * ((bs s).getD 10 0 - 48) + (bs s).getD 11 0 - 48)))) := by
  have hl : (bs s).length = 12 := by rw [bs_length, h]
  unfold rightB
  rw [h]
  generalize bs s = l at hl ⊢
  have e : l.drop 10 = [l.getD 10 0, l.getD 11 0] := by
    apply List.ext_getElem?
    intro j
    match j with
    | 0 => simp [List.getElem?_drop, List.getElem?_eq_getElem (show 10 < l.length by omega)]
    | 1 => simp [List.getElem?_drop, List.getElem?_eq_getElem (show 11 < l.length by omega)]
    | j + 2 => simp [List.getElem?_drop]; omega
  rw [e]
  generalize l.getD 10 0 = a
  generalize l.getD 11 0 = b
  cases ha : digB a with
  | false => simp [ha]
  | true =>
    cases hb : digB b with
    | false => simp [ha, hb]
    | true =>
      obtain ⟨va, a1, a2⟩ := val_dig ha
      obtain ⟨vb, b1, b2⟩ := val_dig hb
      have e2 : numTo [a, b] 2 = 10 * (a - 48) + b - 48 := by
        simp only [numTo, List.getD_cons_zero, List.getD_cons_succ, va, vb]; omega
      cases hh : headB l with
      | true => simp [ha, hb, e2]
      | false =>
        have e3 : sumI l = -1 := by simp [sumI, hh]
        rw [e2, e3]
        simp [ha, hb]; omega
theorem sumI_bd (l : List Int) : -1 ≤ sumI l ∧ sumI l ≤ 96 := by
  unfold sumI
  split
  · rename_i h
    have := sumTo_bd h 10 (by omega)
    rw [Int.tmod_eq_emod_of_nonneg (by omega)]
    omega
  · omega
set_option maxHeartbeats 800000 in
theorem r_Right (s : ByteArray) (w : World) (hs : s.size ≤ maxLen) : Ret Tryz.prog 120 [.string s] w fun v w' => v = .bool (rightB s) ∧ Ex w w' := by
  refine ret_of Tryz.func120 Tryz.ntmps120 rfl rfl rfl ?_
  (repeat (first | refine lw_pure hT rfl ?_ | refine lw_nil ?_ | refine cw_seq ?_ | refine cw_region ?_ | refine qw_then ?_))
  refine cw_draw hM (fun w' => Ex w w') [] rfl rfl (by repeat (first | with_reducible refine nop_then ?_ | with_reducible refine nop_block ?_ | with_reducible exact nop_body)) (fun w1 hx _ => ⟨hx, ?_⟩)
  (refine rw_takeP 0 rfl rfl (by kernel_rfl) (by kernel_rfl) (by kernel_rfl) (by kernel_rfl) rfl (yo_pure hT rfl) ?_; refine rw_takeP 1 rfl rfl (by kernel_rfl) (by kernel_rfl) (by kernel_rfl) (by kernel_rfl) rfl (yo_pure hT rfl) ?_; refine rw_takeP 2 rfl rfl (by kernel_rfl) (by kernel_rfl) (by kernel_rfl) (by kernel_rfl) rfl (yo_pure hT rfl) ?_; refine rw_takeP 3 rfl rfl (by kernel_rfl) (by kernel_rfl) (by kernel_rfl) (by kernel_rfl) rfl (yo_pure hT rfl) ?_)
  refine rw_split (d := 6) rfl (fun h1 => ?_) (fun h1 => ?_)
  · have h1 : s.size = 12 := by simp at h1; omega
    have hr := rightB_eq h1
    have e10 := bs_getD s 10 (by omega)
    have e11 := bs_getD s 11 (by omega)
    have b10 : (0 : Int) ≤ (s[10].toNat : Int) ∧ (s[10].toNat : Int) ≤ 255 := by
      have := UInt8.toNat_lt s[10]; omega
    have b11 : (0 : Int) ≤ (s[11].toNat : Int) ∧ (s[11].toNat : Int) ≤ 255 := by
      have := UInt8.toNat_lt s[11]; omega
    rw [e10, e11] at hr
    (refine rw_takeP 4 rfl rfl (by kernel_rfl) (by kernel_rfl) (by kernel_rfl) (by kernel_rfl) rfl (yo_on rfl rfl (yo_pure hT rfl)) ?_)
    refine rw_one 5 rfl (by kernel_rfl) rfl (fun hcl => ?_)
    (repeat (refine lw_gon_t rfl ?_ ?_; focus (first | with_reducible rfl | with_reducible exact Bool.not_false | with_reducible exact Bool.not_true)))
    refine lw_call hT rfl rfl (r_head s w1 hs) ?_
    rintro _ _ ⟨rfl, rfl⟩
    (repeat (refine lw_nil ?_))
    refine qw_rw (by repeat (first | with_reducible refine nop_then ?_ | with_reducible refine nop_block ?_ | with_reducible exact nop_body)) hcl (fun _ => hx) ?_
    (refine rw_takeP 6 rfl rfl (by kernel_rfl) (by kernel_rfl) (by kernel_rfl) (by kernel_rfl) rfl (yo_pure hT rfl) ?_; refine rw_takeP 7 rfl rfl (by kernel_rfl) (by kernel_rfl) (by kernel_rfl) (by kernel_rfl) rfl (yo_pure hT rfl) ?_)
    refine rw_split (d := 10) rfl (fun h2 => ?_) (fun h2 => ?_)
    · (refine rw_takeP 8 rfl rfl (by kernel_rfl) (by kernel_rfl) (by kernel_rfl) (by kernel_rfl) rfl (yo_on rfl rfl (yo_pure hT rfl)) ?_)
      refine rw_takeP 9 rfl rfl (by kernel_rfl) (by kernel_rfl) (by kernel_rfl) (by kernel_rfl) rfl (yo_on rfl rfl (yo_byte hT rfl rfl rfl 10 rfl (by omega))) ?_
      refine rw_one 10 rfl (by kernel_rfl) rfl (fun hcl => ?_)
      (repeat (refine lw_gon_t rfl ?_ ?_; focus (first | with_reducible rfl | with_reducible exact Bool.not_false | with_reducible exact Bool.not_true)))
      refine lw_call hT rfl rfl (r_digit _ w1) ?_
      rintro _ _ ⟨rfl, rfl⟩
      (repeat (refine lw_nil ?_))
      refine qw_rw (by repeat (first | with_reducible refine nop_then ?_ | with_reducible refine nop_block ?_ | with_reducible exact nop_body)) hcl (fun _ => hx) ?_
      (refine rw_takeP 11 rfl rfl (by kernel_rfl) (by kernel_rfl) (by kernel_rfl) (by kernel_rfl) rfl (yo_pure hT rfl) ?_; refine rw_takeP 12 rfl rfl (by kernel_rfl) (by kernel_rfl) (by kernel_rfl) (by kernel_rfl) rfl (yo_pure hT rfl) ?_)
      refine rw_split (d := 15) rfl (fun h3 => ?_) (fun h3 => ?_)
      · (refine rw_takeP 13 rfl rfl (by kernel_rfl) (by kernel_rfl) (by kernel_rfl) (by kernel_rfl) rfl (yo_on rfl rfl (yo_pure hT rfl)) ?_)
        refine rw_takeP 14 rfl rfl (by kernel_rfl) (by kernel_rfl) (by kernel_rfl) (by kernel_rfl) rfl (yo_on rfl rfl (yo_byte hT rfl rfl rfl 11 rfl (by omega))) ?_
        refine rw_one 15 rfl (by kernel_rfl) rfl (fun hcl => ?_)
        (repeat (refine lw_gon_t rfl ?_ ?_; focus (first | with_reducible rfl | with_reducible exact Bool.not_false | with_reducible exact Bool.not_true)))
        refine lw_call hT rfl rfl (r_digit _ w1) ?_
        rintro _ _ ⟨rfl, rfl⟩
        (repeat (refine lw_nil ?_))
        refine qw_rw (by repeat (first | with_reducible refine nop_then ?_ | with_reducible refine nop_block ?_ | with_reducible exact nop_body)) hcl (fun _ => hx) ?_
        (refine rw_takeP 16 rfl rfl (by kernel_rfl) (by kernel_rfl) (by kernel_rfl) (by kernel_rfl) rfl (yo_pure hT rfl) ?_; refine rw_takeP 17 rfl rfl (by kernel_rfl) (by kernel_rfl) (by kernel_rfl) (by kernel_rfl) rfl (yo_pure hT rfl) ?_)
        refine rw_split (d := 20) rfl (fun h4 => ?_) (fun h4 => ?_)
        · (refine rw_takeP 18 rfl rfl (by kernel_rfl) (by kernel_rfl) (by kernel_rfl) (by kernel_rfl) rfl (yo_on rfl rfl (yo_pure hT rfl)) ?_; refine rw_takeP 20 rfl rfl (by kernel_rfl) (by kernel_rfl) (by kernel_rfl) (by kernel_rfl) rfl (yo_on rfl rfl (yo_pure hT rfl)) ?_)
          refine rw_takeP 21 rfl rfl (by kernel_rfl) (by kernel_rfl) (by kernel_rfl) (by kernel_rfl) rfl (yo_on rfl rfl (yo_byte hT rfl rfl rfl 10 rfl (by omega))) ?_
          refine rw_takeP 22 rfl rfl (by kernel_rfl) (by kernel_rfl) (by kernel_rfl) (by kernel_rfl) rfl (yo_on rfl rfl (yo_conv_int hT rfl rfl rfl (IntWalk.i64_in _ ⟨by omega, by omega⟩))) ?_
          refine rw_takeP 23 rfl rfl (by kernel_rfl) (by kernel_rfl) (by kernel_rfl) (by kernel_rfl) rfl (yo_on rfl rfl (yo_sum (r := (s[10].toNat : Int) - 48) rfl rfl (.inr (.inl ⟨rfl, rfl⟩)) (by omega) (by omega))) ?_
          refine rw_takeP 24 rfl rfl (by kernel_rfl) (by kernel_rfl) (by kernel_rfl) (by kernel_rfl) rfl (yo_on rfl rfl (yo_sum (r := 10 * ((s[10].toNat : Int) - 48)) rfl rfl (.inr (.inr ⟨rfl, rfl⟩)) (by omega) (by omega))) ?_
          (refine rw_takeP 25 rfl rfl (by kernel_rfl) (by kernel_rfl) (by kernel_rfl) (by kernel_rfl) rfl (yo_on rfl rfl (yo_pure hT rfl)) ?_)
          refine rw_takeP 26 rfl rfl (by kernel_rfl) (by kernel_rfl) (by kernel_rfl) (by kernel_rfl) rfl (yo_on rfl rfl (yo_byte hT rfl rfl rfl 11 rfl (by omega))) ?_
          refine rw_takeP 27 rfl rfl (by kernel_rfl) (by kernel_rfl) (by kernel_rfl) (by kernel_rfl) rfl (yo_on rfl rfl (yo_conv_int hT rfl rfl rfl (IntWalk.i64_in _ ⟨by omega, by omega⟩))) ?_
          refine rw_takeP 28 rfl rfl (by kernel_rfl) (by kernel_rfl) (by kernel_rfl) (by kernel_rfl) rfl (yo_on rfl rfl (yo_sum (r := 10 * ((s[10].toNat : Int) - 48) + (s[11].toNat : Int)) rfl rfl (.inl ⟨rfl, rfl⟩) (by omega) (by omega))) ?_
          refine rw_takeP 29 rfl rfl (by kernel_rfl) (by kernel_rfl) (by kernel_rfl) (by kernel_rfl) rfl (yo_on rfl rfl (yo_sum (r := 10 * ((s[10].toNat : Int) - 48) + (s[11].toNat : Int) - 48) rfl rfl (.inr (.inl ⟨rfl, rfl⟩)) (by omega) (by omega))) ?_
          refine rw_one 19 rfl (by kernel_rfl) rfl (fun hcl => ?_)
          (repeat (refine lw_gon_t rfl ?_ ?_; focus (first | with_reducible rfl | with_reducible exact Bool.not_false | with_reducible exact Bool.not_true)))
          refine lw_call hT rfl rfl (r_Sum s w1 hs) ?_
          rintro _ _ ⟨rfl, rfl⟩
          (repeat (refine lw_nil ?_))
          refine qw_rw (by repeat (first | with_reducible refine nop_then ?_ | with_reducible refine nop_block ?_ | with_reducible exact nop_body)) hcl (fun _ => hx) ?_
          (refine rw_takeP 30 rfl rfl (by kernel_rfl) (by kernel_rfl) (by kernel_rfl) (by kernel_rfl) rfl (yo_on rfl rfl (yo_pure hT rfl)) ?_)
          (refine rw_takeP 31 rfl rfl (by kernel_rfl) (by kernel_rfl) (by kernel_rfl) (by kernel_rfl) rfl (yo_pure hT rfl) ?_; refine rw_takeP 32 rfl rfl (by kernel_rfl) (by kernel_rfl) (by kernel_rfl) (by kernel_rfl) rfl (yo_pure hT rfl) ?_)
          refine rw_done (by kernel_rfl) ?_
          (repeat (first | refine qw_then ?_ | refine cw_ret ?_))
          refine qw_ret rfl ⟨?_, hx⟩
          simp [oneOr, hr, h2, h3, h4]
        · (refine rw_takeP 18 rfl rfl (by kernel_rfl) (by kernel_rfl) (by kernel_rfl) (by kernel_rfl) rfl (yo_off rfl rfl) ?_; refine rw_takeP 20 rfl rfl (by kernel_rfl) (by kernel_rfl) (by kernel_rfl) (by kernel_rfl) rfl (yo_off rfl rfl) ?_; refine rw_takeP 21 rfl rfl (by kernel_rfl) (by kernel_rfl) (by kernel_rfl) (by kernel_rfl) rfl (yo_off rfl rfl) ?_; refine rw_takeP 22 rfl rfl (by kernel_rfl) (by kernel_rfl) (by kernel_rfl) (by kernel_rfl) rfl (yo_off rfl rfl) ?_; refine rw_takeP 23 rfl rfl (by kernel_rfl) (by kernel_rfl) (by kernel_rfl) (by kernel_rfl) rfl (yo_off rfl rfl) ?_; refine rw_takeP 24 rfl rfl (by kernel_rfl) (by kernel_rfl) (by kernel_rfl) (by kernel_rfl) rfl (yo_off rfl rfl) ?_; refine rw_takeP 25 rfl rfl (by kernel_rfl) (by kernel_rfl) (by kernel_rfl) (by kernel_rfl) rfl (yo_off rfl rfl) ?_; refine rw_takeP 26 rfl rfl (by kernel_rfl) (by kernel_rfl) (by kernel_rfl) (by kernel_rfl) rfl (yo_off rfl rfl) ?_; refine rw_takeP 27 rfl rfl (by kernel_rfl) (by kernel_rfl) (by kernel_rfl) (by kernel_rfl) rfl (yo_off rfl rfl) ?_; refine rw_takeP 28 rfl rfl (by kernel_rfl) (by kernel_rfl) (by kernel_rfl) (by kernel_rfl) rfl (yo_off rfl rfl) ?_; refine rw_takeP 29 rfl rfl (by kernel_rfl) (by kernel_rfl) (by kernel_rfl) (by kernel_rfl) rfl (yo_off rfl rfl) ?_; refine rw_takeP 19 rfl rfl (by kernel_rfl) (by kernel_rfl) (by kernel_rfl) (by kernel_rfl) rfl (yo_off rfl rfl) ?_; refine rw_takeP 30 rfl rfl (by kernel_rfl) (by kernel_rfl) (by kernel_rfl) (by kernel_rfl) rfl (yo_off rfl rfl) ?_)
          (refine rw_takeP 31 rfl rfl (by kernel_rfl) (by kernel_rfl) (by kernel_rfl) (by kernel_rfl) rfl (yo_pure hT rfl) ?_; refine rw_takeP 32 rfl rfl (by kernel_rfl) (by kernel_rfl) (by kernel_rfl) (by kernel_rfl) rfl (yo_pure hT rfl) ?_)
          refine rw_done (by kernel_rfl) ?_
          (repeat (first | refine qw_then ?_ | refine cw_ret ?_))
          refine qw_ret rfl ⟨?_, hx⟩
          simp [oneOr, hr, h4]
      · (refine rw_takeP 13 rfl rfl (by kernel_rfl) (by kernel_rfl) (by kernel_rfl) (by kernel_rfl) rfl (yo_off rfl rfl) ?_; refine rw_takeP 14 rfl rfl (by kernel_rfl) (by kernel_rfl) (by kernel_rfl) (by kernel_rfl) rfl (yo_off rfl rfl) ?_; refine rw_takeP 15 rfl rfl (by kernel_rfl) (by kernel_rfl) (by kernel_rfl) (by kernel_rfl) rfl (yo_off rfl rfl) ?_)
        (refine rw_takeP 16 rfl rfl (by kernel_rfl) (by kernel_rfl) (by kernel_rfl) (by kernel_rfl) rfl (yo_pure hT rfl) ?_; refine rw_takeP 17 rfl rfl (by kernel_rfl) (by kernel_rfl) (by kernel_rfl) (by kernel_rfl) rfl (yo_pure hT rfl) ?_)
        (refine rw_takeP 18 rfl rfl (by kernel_rfl) (by kernel_rfl) (by kernel_rfl) (by kernel_rfl) rfl (yo_off rfl rfl) ?_; refine rw_takeP 20 rfl rfl (by kernel_rfl) (by kernel_rfl) (by kernel_rfl) (by kernel_rfl) rfl (yo_off rfl rfl) ?_; refine rw_takeP 21 rfl rfl (by kernel_rfl) (by kernel_rfl) (by kernel_rfl) (by kernel_rfl) rfl (yo_off rfl rfl) ?_; refine rw_takeP 22 rfl rfl (by kernel_rfl) (by kernel_rfl) (by kernel_rfl) (by kernel_rfl) rfl (yo_off rfl rfl) ?_; refine rw_takeP 23 rfl rfl (by kernel_rfl) (by kernel_rfl) (by kernel_rfl) (by kernel_rfl) rfl (yo_off rfl rfl) ?_; refine rw_takeP 24 rfl rfl (by kernel_rfl) (by kernel_rfl) (by kernel_rfl) (by kernel_rfl) rfl (yo_off rfl rfl) ?_; refine rw_takeP 25 rfl rfl (by kernel_rfl) (by kernel_rfl) (by kernel_rfl) (by kernel_rfl) rfl (yo_off rfl rfl) ?_; refine rw_takeP 26 rfl rfl (by kernel_rfl) (by kernel_rfl) (by kernel_rfl) (by kernel_rfl) rfl (yo_off rfl rfl) ?_; refine rw_takeP 27 rfl rfl (by kernel_rfl) (by kernel_rfl) (by kernel_rfl) (by kernel_rfl) rfl (yo_off rfl rfl) ?_; refine rw_takeP 28 rfl rfl (by kernel_rfl) (by kernel_rfl) (by kernel_rfl) (by kernel_rfl) rfl (yo_off rfl rfl) ?_; refine rw_takeP 29 rfl rfl (by kernel_rfl) (by kernel_rfl) (by kernel_rfl) (by kernel_rfl) rfl (yo_off rfl rfl) ?_; refine rw_takeP 19 rfl rfl (by kernel_rfl) (by kernel_rfl) (by kernel_rfl) (by kernel_rfl) rfl (yo_off rfl rfl) ?_; refine rw_takeP 30 rfl rfl (by kernel_rfl) (by kernel_rfl) (by kernel_rfl) (by kernel_rfl) rfl (yo_off rfl rfl) ?_)
        (refine rw_takeP 31 rfl rfl (by kernel_rfl) (by kernel_rfl) (by kernel_rfl) (by kernel_rfl) rfl (yo_pure hT rfl) ?_; refine rw_takeP 32 rfl rfl (by kernel_rfl) (by kernel_rfl) (by kernel_rfl) (by kernel_rfl) rfl (yo_pure hT rfl) ?_)
        refine rw_done (by kernel_rfl) ?_
        (repeat (first | refine qw_then ?_ | refine cw_ret ?_))
        refine qw_ret rfl ⟨?_, hx⟩
        simp [oneOr, hr, h3]
    · (refine rw_takeP 8 rfl rfl (by kernel_rfl) (by kernel_rfl) (by kernel_rfl) (by kernel_rfl) rfl (yo_off rfl rfl) ?_; refine rw_takeP 9 rfl rfl (by kernel_rfl) (by kernel_rfl) (by kernel_rfl) (by kernel_rfl) rfl (yo_off rfl rfl) ?_; refine rw_takeP 10 rfl rfl (by kernel_rfl) (by kernel_rfl) (by kernel_rfl) (by kernel_rfl) rfl (yo_off rfl rfl) ?_)
      (refine rw_takeP 11 rfl rfl (by kernel_rfl) (by kernel_rfl) (by kernel_rfl) (by kernel_rfl) rfl (yo_pure hT rfl) ?_; refine rw_takeP 12 rfl rfl (by kernel_rfl) (by kernel_rfl) (by kernel_rfl) (by kernel_rfl) rfl (yo_pure hT rfl) ?_)
      (refine rw_takeP 13 rfl rfl (by kernel_rfl) (by kernel_rfl) (by kernel_rfl) (by kernel_rfl) rfl (yo_off rfl rfl) ?_; refine rw_takeP 14 rfl rfl (by kernel_rfl) (by kernel_rfl) (by kernel_rfl) (by kernel_rfl) rfl (yo_off rfl rfl) ?_; refine rw_takeP 15 rfl rfl (by kernel_rfl) (by kernel_rfl) (by kernel_rfl) (by kernel_rfl) rfl (yo_off rfl rfl) ?_)
      (refine rw_takeP 16 rfl rfl (by kernel_rfl) (by kernel_rfl) (by kernel_rfl) (by kernel_rfl) rfl (yo_pure hT rfl) ?_; refine rw_takeP 17 rfl rfl (by kernel_rfl) (by kernel_rfl) (by kernel_rfl) (by kernel_rfl) rfl (yo_pure hT rfl) ?_)
      (refine rw_takeP 18 rfl rfl (by kernel_rfl) (by kernel_rfl) (by kernel_rfl) (by kernel_rfl) rfl (yo_off rfl rfl) ?_; refine rw_takeP 20 rfl rfl (by kernel_rfl) (by kernel_rfl) (by kernel_rfl) (by kernel_rfl) rfl (yo_off rfl rfl) ?_; refine rw_takeP 21 rfl rfl (by kernel_rfl) (by kernel_rfl) (by kernel_rfl) (by kernel_rfl) rfl (yo_off rfl rfl) ?_; refine rw_takeP 22 rfl rfl (by kernel_rfl) (by kernel_rfl) (by kernel_rfl) (by kernel_rfl) rfl (yo_off rfl rfl) ?_; refine rw_takeP 23 rfl rfl (by kernel_rfl) (by kernel_rfl) (by kernel_rfl) (by kernel_rfl) rfl (yo_off rfl rfl) ?_; refine rw_takeP 24 rfl rfl (by kernel_rfl) (by kernel_rfl) (by kernel_rfl) (by kernel_rfl) rfl (yo_off rfl rfl) ?_; refine rw_takeP 25 rfl rfl (by kernel_rfl) (by kernel_rfl) (by kernel_rfl) (by kernel_rfl) rfl (yo_off rfl rfl) ?_; refine rw_takeP 26 rfl rfl (by kernel_rfl) (by kernel_rfl) (by kernel_rfl) (by kernel_rfl) rfl (yo_off rfl rfl) ?_; refine rw_takeP 27 rfl rfl (by kernel_rfl) (by kernel_rfl) (by kernel_rfl) (by kernel_rfl) rfl (yo_off rfl rfl) ?_; refine rw_takeP 28 rfl rfl (by kernel_rfl) (by kernel_rfl) (by kernel_rfl) (by kernel_rfl) rfl (yo_off rfl rfl) ?_; refine rw_takeP 29 rfl rfl (by kernel_rfl) (by kernel_rfl) (by kernel_rfl) (by kernel_rfl) rfl (yo_off rfl rfl) ?_; refine rw_takeP 19 rfl rfl (by kernel_rfl) (by kernel_rfl) (by kernel_rfl) (by kernel_rfl) rfl (yo_off rfl rfl) ?_; refine rw_takeP 30 rfl rfl (by kernel_rfl) (by kernel_rfl) (by kernel_rfl) (by kernel_rfl) rfl (yo_off rfl rfl) ?_)
      (refine rw_takeP 31 rfl rfl (by kernel_rfl) (by kernel_rfl) (by kernel_rfl) (by kernel_rfl) rfl (yo_pure hT rfl) ?_; refine rw_takeP 32 rfl rfl (by kernel_rfl) (by kernel_rfl) (by kernel_rfl) (by kernel_rfl) rfl (yo_pure hT rfl) ?_)
      refine rw_done (by kernel_rfl) ?_
      (repeat (first | refine qw_then ?_ | refine cw_ret ?_))
      refine qw_ret rfl ⟨?_, hx⟩
      simp [oneOr, hr, h2]
  · have h1 : s.size ≠ 12 := by simp at h1; omega
    (refine rw_takeP 4 rfl rfl (by kernel_rfl) (by kernel_rfl) (by kernel_rfl) (by kernel_rfl) rfl (yo_off rfl rfl) ?_; refine rw_takeP 5 rfl rfl (by kernel_rfl) (by kernel_rfl) (by kernel_rfl) (by kernel_rfl) rfl (yo_off rfl rfl) ?_)
    (refine rw_takeP 6 rfl rfl (by kernel_rfl) (by kernel_rfl) (by kernel_rfl) (by kernel_rfl) rfl (yo_pure hT rfl) ?_; refine rw_takeP 7 rfl rfl (by kernel_rfl) (by kernel_rfl) (by kernel_rfl) (by kernel_rfl) rfl (yo_pure hT rfl) ?_)
    (refine rw_takeP 8 rfl rfl (by kernel_rfl) (by kernel_rfl) (by kernel_rfl) (by kernel_rfl) rfl (yo_off rfl rfl) ?_; refine rw_takeP 9 rfl rfl (by kernel_rfl) (by kernel_rfl) (by kernel_rfl) (by kernel_rfl) rfl (yo_off rfl rfl) ?_; refine rw_takeP 10 rfl rfl (by kernel_rfl) (by kernel_rfl) (by kernel_rfl) (by kernel_rfl) rfl (yo_off rfl rfl) ?_)
    (refine rw_takeP 11 rfl rfl (by kernel_rfl) (by kernel_rfl) (by kernel_rfl) (by kernel_rfl) rfl (yo_pure hT rfl) ?_; refine rw_takeP 12 rfl rfl (by kernel_rfl) (by kernel_rfl) (by kernel_rfl) (by kernel_rfl) rfl (yo_pure hT rfl) ?_)
    (refine rw_takeP 13 rfl rfl (by kernel_rfl) (by kernel_rfl) (by kernel_rfl) (by kernel_rfl) rfl (yo_off rfl rfl) ?_; refine rw_takeP 14 rfl rfl (by kernel_rfl) (by kernel_rfl) (by kernel_rfl) (by kernel_rfl) rfl (yo_off rfl rfl) ?_; refine rw_takeP 15 rfl rfl (by kernel_rfl) (by kernel_rfl) (by kernel_rfl) (by kernel_rfl) rfl (yo_off rfl rfl) ?_)
    (refine rw_takeP 16 rfl rfl (by kernel_rfl) (by kernel_rfl) (by kernel_rfl) (by kernel_rfl) rfl (yo_pure hT rfl) ?_; refine rw_takeP 17 rfl rfl (by kernel_rfl) (by kernel_rfl) (by kernel_rfl) (by kernel_rfl) rfl (yo_pure hT rfl) ?_)
    (refine rw_takeP 18 rfl rfl (by kernel_rfl) (by kernel_rfl) (by kernel_rfl) (by kernel_rfl) rfl (yo_off rfl rfl) ?_; refine rw_takeP 20 rfl rfl (by kernel_rfl) (by kernel_rfl) (by kernel_rfl) (by kernel_rfl) rfl (yo_off rfl rfl) ?_; refine rw_takeP 21 rfl rfl (by kernel_rfl) (by kernel_rfl) (by kernel_rfl) (by kernel_rfl) rfl (yo_off rfl rfl) ?_; refine rw_takeP 22 rfl rfl (by kernel_rfl) (by kernel_rfl) (by kernel_rfl) (by kernel_rfl) rfl (yo_off rfl rfl) ?_; refine rw_takeP 23 rfl rfl (by kernel_rfl) (by kernel_rfl) (by kernel_rfl) (by kernel_rfl) rfl (yo_off rfl rfl) ?_; refine rw_takeP 24 rfl rfl (by kernel_rfl) (by kernel_rfl) (by kernel_rfl) (by kernel_rfl) rfl (yo_off rfl rfl) ?_; refine rw_takeP 25 rfl rfl (by kernel_rfl) (by kernel_rfl) (by kernel_rfl) (by kernel_rfl) rfl (yo_off rfl rfl) ?_; refine rw_takeP 26 rfl rfl (by kernel_rfl) (by kernel_rfl) (by kernel_rfl) (by kernel_rfl) rfl (yo_off rfl rfl) ?_; refine rw_takeP 27 rfl rfl (by kernel_rfl) (by kernel_rfl) (by kernel_rfl) (by kernel_rfl) rfl (yo_off rfl rfl) ?_; refine rw_takeP 28 rfl rfl (by kernel_rfl) (by kernel_rfl) (by kernel_rfl) (by kernel_rfl) rfl (yo_off rfl rfl) ?_; refine rw_takeP 29 rfl rfl (by kernel_rfl) (by kernel_rfl) (by kernel_rfl) (by kernel_rfl) rfl (yo_off rfl rfl) ?_; refine rw_takeP 19 rfl rfl (by kernel_rfl) (by kernel_rfl) (by kernel_rfl) (by kernel_rfl) rfl (yo_off rfl rfl) ?_; refine rw_takeP 30 rfl rfl (by kernel_rfl) (by kernel_rfl) (by kernel_rfl) (by kernel_rfl) rfl (yo_off rfl rfl) ?_)
    (refine rw_takeP 31 rfl rfl (by kernel_rfl) (by kernel_rfl) (by kernel_rfl) (by kernel_rfl) rfl (yo_pure hT rfl) ?_; refine rw_takeP 32 rfl rfl (by kernel_rfl) (by kernel_rfl) (by kernel_rfl) (by kernel_rfl) rfl (yo_pure hT rfl) ?_)
    refine rw_done (by kernel_rfl) ?_
    (repeat (first | refine qw_then ?_ | refine cw_ret ?_))
    refine qw_ret rfl ⟨?_, hx⟩
    simp [oneOr, rightB, h1]
end Go.Proofs.YtfbjpfgglgffgaaGreat
