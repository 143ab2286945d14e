/- Contracts of the functions on signs and names: package mark and its reference. -/
import Derived.Test.YtfbjpfgglgffgaaGreatTb
set_option linter.unusedVariables false
set_option linter.unusedSimpArgs false
set_option linter.unusedSectionVars false
set_option linter.unnecessarySimpa false
namespace Go.Proofs.YtfbjpfgglgffgaaGreat
open Go Go.SK

/-! ### What they compute -/
def lowB (c : Int) : Bool := decide (97 ≤ c) && decide (c ≤ 122)
def digB (c : Int) : Bool := decide (48 ≤ c) && decide (c ≤ 57)
def signB (c : Int) : Bool := lowB c || (digB c || decide (c = 45))
/-- The bytes of a text, as numbers. -/
def bs (s : ByteArray) : List Int := s.data.toList.map fun c => (c.toNat : Int)
theorem bs_length (s : ByteArray) : (bs s).length = s.size := by simp [bs]
theorem bs_get (s : ByteArray) (i : Nat) (h : i < s.size) : (bs s)[i]? = some (s[i].toNat : Int) := by
  have h' : i < s.data.size := h
  have : s.data.toList[i]? = some s.data[i] := by simp
  simp only [bs, List.getElem?_map, this, Option.map_some]; rfl
def nameB (s : ByteArray) : Bool := decide (1 ≤ s.size) && decide (s.size ≤ 16) && (bs s).all signB
theorem all_split {p : Int → Bool} {l : List Int} {i : Nat} {c : Int} (h : l[i]? = some c) : l.all p = ((l.take i).all p && (p c && (l.drop (i + 1)).all p)) := by
  have e : l = l.take i ++ c :: l.drop (i + 1) := by
    have hlt := (List.getElem?_eq_some_iff.1 h)
    obtain ⟨hl, hc⟩ := hlt
    rw [← hc]; simp
  conv => lhs; rw [e]
  simp
theorem take_all_succ {p : Int → Bool} {l : List Int} {i : Nat} {c : Int} (h : l[i]? = some c) : (l.take (i + 1)).all p = ((l.take i).all p && p c) := by
  rw [List.take_add_one, h]; simp

/-! ### package mark -/
theorem mark_lower (c : Int) (w : World) : Ret Tryz.prog 70 [.int .u8 c] w fun v w' => v = .bool (lowB c) ∧ w = w' := by
  refine ret_of Tryz.func70 Tryz.ntmps70 rfl rfl rfl ?_
  (repeat (first | refine lw_pure hT rfl ?_ | refine lw_nil ?_ | refine cw_seq ?_ | refine cw_region ?_ | refine qw_then ?_))
  refine lw_guard rfl (fun h => ?_) (fun h => ?_) <;> (repeat (first | refine lw_pure hT rfl ?_ | refine lw_nil ?_ | refine qw_then ?_ | refine cw_ret ?_ | (refine lw_gon_t rfl ?_ ?_; focus (first | with_reducible rfl | with_reducible exact Bool.not_false | with_reducible exact Bool.not_true)) | (refine lw_goff_f rfl ?_ ?_; focus (first | with_reducible rfl | with_reducible exact Bool.not_false | with_reducible exact Bool.not_true)))) <;> refine qw_ret rfl ⟨?_, rfl⟩ <;> simp at h <;> simp [oneOr, lowB, h]
  omega
theorem mark_digit (c : Int) (w : World) : Ret Tryz.prog 71 [.int .u8 c] w fun v w' => v = .bool (digB c) ∧ w = w' := by
  refine ret_of Tryz.func71 Tryz.ntmps71 rfl rfl rfl ?_
  (repeat (first | refine lw_pure hT rfl ?_ | refine lw_nil ?_ | refine cw_seq ?_ | refine cw_region ?_ | refine qw_then ?_))
  refine lw_guard rfl (fun h => ?_) (fun h => ?_) <;> (repeat (first | refine lw_pure hT rfl ?_ | refine lw_nil ?_ | refine qw_then ?_ | refine cw_ret ?_ | (refine lw_gon_t rfl ?_ ?_; focus (first | with_reducible rfl | with_reducible exact Bool.not_false | with_reducible exact Bool.not_true)) | (refine lw_goff_f rfl ?_ ?_; focus (first | with_reducible rfl | with_reducible exact Bool.not_false | with_reducible exact Bool.not_true)))) <;> refine qw_ret rfl ⟨?_, rfl⟩ <;> simp at h <;> simp [oneOr, digB, h]
  omega
theorem mark_sign (c : Int) (w : World) : Ret Tryz.prog 69 [.int .u8 c] w fun v w' => v = .bool (signB c) ∧ w = w' := by
  refine ret_of Tryz.func69 Tryz.ntmps69 rfl rfl rfl ?_
  (repeat (first | refine lw_pure hT rfl ?_ | refine lw_nil ?_ | refine cw_seq ?_ | refine cw_region ?_ | refine qw_then ?_))
  refine lw_call hT rfl rfl (mark_lower c w) ?_
  rintro v w' ⟨rfl, rfl⟩
  (repeat (refine lw_pure hT rfl ?_))
  refine lw_guard rfl (fun h1 => ?_) (fun h1 => ?_)
  · (repeat (first | refine lw_pure hT rfl ?_ | refine lw_nil ?_ | refine qw_then ?_ | refine cw_ret ?_ | (refine lw_goff_t rfl ?_ ?_; focus (first | with_reducible rfl | with_reducible exact Bool.not_false | with_reducible exact Bool.not_true))))
    refine qw_ret rfl ⟨?_, rfl⟩
    simp [oneOr, signB, h1]
  · (repeat (first | refine lw_pure hT rfl ?_ | (refine lw_gon_f rfl ?_ ?_; focus (first | with_reducible rfl | with_reducible exact Bool.not_false | with_reducible exact Bool.not_true))))
    refine lw_call hT rfl rfl (mark_digit c _) ?_
    rintro v w' ⟨rfl, rfl⟩
    (repeat (refine lw_pure hT rfl ?_))
    refine lw_guard rfl (fun h2 => ?_) (fun h2 => ?_) <;> (repeat (first | refine lw_pure hT rfl ?_ | refine lw_nil ?_ | refine qw_then ?_ | refine cw_ret ?_ | (refine lw_goff_t rfl ?_ ?_; focus (first | with_reducible rfl | with_reducible exact Bool.not_false | with_reducible exact Bool.not_true)) | (refine lw_gon_f rfl ?_ ?_; focus (first | with_reducible rfl | with_reducible exact Bool.not_false | with_reducible exact Bool.not_true)))) <;> refine qw_ret rfl ⟨?_, rfl⟩ <;> simp [oneOr, signB, h1, h2]
theorem mark_all (s : ByteArray) {f : Nat} {l c : List Value} (p : Int → Bool) (w : World) (hf : memN T.fns f = true) (hcl : ∀ x w', Ret Tryz.prog f (l ++ [.int .u8 x] ++ c) w' fun v w'' => v = .bool (p x) ∧ w' = w'') (hs : s.size ≤ maxLen) :
    Ret Tryz.prog 68 [.string s, .func (.func f) ⟨l⟩ ⟨c⟩] w fun v w' => v = .bool ((bs s).all p) ∧ w = w' := by
  unfold maxLen at hs
  refine ret_of Tryz.func68 Tryz.ntmps68 rfl rfl rfl ?_
  (repeat (first | refine lw_pure hT rfl ?_ | refine lw_nil ?_ | refine cw_seq ?_ | refine cw_region ?_ | refine qw_then ?_ | refine cw_block ?_))
  refine cw_loop (fun i : Nat => [(0, .string s), (1, .func (.func f) ⟨l⟩ ⟨c⟩), (7, .int .i64 (s.size : Nat)), (8, .int .i64 (i : Nat))]) (fun i w' => w' = w ∧ i ≤ s.size ∧ ((bs s).take i).all p = true) (fun i => s.size - i) 0 (by repeat (first | exact trivial | refine ⟨rfl, ?_⟩)) ⟨rfl, Nat.zero_le _, by simp⟩ ?_
  rintro i _ ⟨rfl, hi, ha⟩
  (repeat (first | refine lw_pure hT rfl ?_ | refine lw_nil ?_ | refine cw_seq ?_ | refine cw_region ?_ | refine qw_then ?_))
  refine cw_cond rfl (fun h => ?_) (fun h => ?_)
  · have hlt : i < s.size := by simpa using h
    (repeat (first | refine lw_pure hT rfl ?_ | refine lw_nil ?_ | refine cw_seq ?_ | refine cw_region ?_ | refine qw_then ?_ | refine cw_skip ?_ | refine cw_block ?_))
    refine lw_byte hT rfl rfl rfl i rfl hlt ?_
    skip
    refine lw_call_fn hT rfl hf rfl (hcl _ _) ?_
    rintro _ _ ⟨rfl, rfl⟩
    (repeat (first | refine lw_pure hT rfl ?_ | refine lw_nil ?_ | refine qw_then ?_))
    refine cw_cond rfl (fun h => ?_) (fun h => ?_)
    · (repeat (first | refine lw_pure hT rfl ?_ | refine lw_nil ?_ | refine cw_seq ?_ | refine cw_region ?_ | refine qw_then ?_ | refine cw_ret ?_ | refine qw_then_ret ?_ | refine qw_block_ret ?_))
      refine qw_ret rfl ⟨?_, rfl⟩
      rw [all_split (bs_get s i hlt)]
      simp at h
      simp [oneOr, h]
    · (repeat (first | (refine lw_add rfl rfl ?_ ?_ ?_; iterate 2 omega) | refine lw_pure hT rfl ?_ | refine lw_nil ?_ | refine cw_region ?_ | refine qw_then ?_ | refine cw_skip ?_ | refine qw_block ?_))
      skip
      refine qw_round (i + 1) (by repeat (first | exact trivial | refine ⟨rfl, ?_⟩)) ⟨rfl, hlt, ?_⟩ (by omega)
      rw [take_all_succ (bs_get s i hlt), ha]
      simpa using h
  · (repeat (first | refine lw_pure hT rfl ?_ | refine lw_nil ?_ | refine cw_seq ?_ | refine cw_region ?_ | refine qw_then ?_ | refine cw_ret ?_ | refine cw_exit ?_ | refine qw_block_exit ?_ | refine qw_then_exit ?_))
    refine qw_ret rfl ⟨?_, rfl⟩
    have : i = s.size := by simp at h; omega
    subst this
    rw [List.take_of_length_le (by rw [bs_length]; exact Nat.le_refl _)] at ha
    simp [oneOr, ha]
theorem mark_Name (s : ByteArray) (w : World) (hs : s.size ≤ maxLen) : Ret Tryz.prog 40 [.string s] w fun v w' => v = .bool (nameB s) ∧ w = w' := by
  refine ret_of Tryz.func40 Tryz.ntmps40 rfl rfl rfl ?_
  (repeat (first | refine lw_pure hT rfl ?_ | refine lw_nil ?_ | refine cw_seq ?_ | refine cw_region ?_ | refine qw_then ?_))
  refine lw_guard rfl (fun h1 => ?_) (fun h1 => ?_)
  · have h1 : 1 ≤ s.size := by simp at h1; omega
    (repeat (first | refine lw_pure hT rfl ?_ | (refine lw_gon_t rfl ?_ ?_; focus (first | with_reducible rfl | with_reducible exact Bool.not_false | with_reducible exact Bool.not_true))))
    refine lw_guard rfl (fun h2 => ?_) (fun h2 => ?_)
    · have h2 : s.size ≤ 16 := by simp at h2; omega
      (repeat (first | refine lw_pure hT rfl ?_ | (refine lw_gon_t rfl ?_ ?_; focus (first | with_reducible rfl | with_reducible exact Bool.not_false | with_reducible exact Bool.not_true))))
      refine lw_call hT rfl rfl (mark_all s (l := []) (c := []) signB w rfl (fun x w' => mark_sign x w') hs) ?_
      rintro _ _ ⟨rfl, rfl⟩
      (repeat (first | refine lw_pure hT rfl ?_ | refine lw_nil ?_ | refine qw_then ?_ | refine cw_ret ?_))
      exact qw_ret rfl ⟨by simp [oneOr, nameB, h1, h2], rfl⟩
    · have h2 : ¬ s.size ≤ 16 := by simp at h2; omega
      (repeat (first | refine lw_pure hT rfl ?_ | refine lw_nil ?_ | refine qw_then ?_ | refine cw_ret ?_ | (refine lw_goff_f rfl ?_ ?_; focus (first | with_reducible rfl | with_reducible exact Bool.not_false | with_reducible exact Bool.not_true))))
      exact qw_ret rfl ⟨by simp [oneOr, nameB, h2], rfl⟩
  · have h1 : ¬ 1 ≤ s.size := by simp at h1; omega
    (repeat (first | refine lw_pure hT rfl ?_ | refine lw_nil ?_ | refine qw_then ?_ | refine cw_ret ?_ | (refine lw_goff_f rfl ?_ ?_; focus (first | with_reducible rfl | with_reducible exact Bool.not_false | with_reducible exact Bool.not_true))))
    exact qw_ret rfl ⟨by simp [oneOr, nameB, h1], rfl⟩

/-! ### marks -/
def valI (c : Int) : Int := if lowB c then c - 97 + 1 else c - 48
theorem mark_value (c : Int) (w : World) (hc : lowB c = true ∨ digB c = true) : Ret Tryz.prog 129 [.int .u8 c] w fun v w' => v = .int .i64 (valI c) ∧ w = w' := by
  have hb : (97 ≤ c ∧ c ≤ 122) ∨ (48 ≤ c ∧ c ≤ 57) := by simpa [lowB, digB] using hc
  refine ret_of Tryz.func129 Tryz.ntmps129 rfl rfl rfl ?_
  (repeat (first | refine lw_pure hT rfl ?_ | refine lw_nil ?_ | refine cw_seq ?_ | refine cw_region ?_ | refine qw_then ?_))
  refine lw_call hT rfl rfl (mark_lower c w) ?_
  rintro _ _ ⟨rfl, rfl⟩
  (repeat (first | refine lw_nil ?_ | refine qw_then ?_))
  refine cw_cond rfl (fun h => ?_) (fun h => ?_)
  · have h' : 97 ≤ c ∧ c ≤ 122 := by simpa [lowB] using h
    (repeat (first | (refine lw_conv64 hT rfl rfl rfl ?_ ?_ ?_; iterate 2 omega) | (refine lw_sub8 rfl rfl ?_ ?_ ?_; iterate 2 omega) | (refine lw_add rfl rfl ?_ ?_ ?_; iterate 2 omega) | refine lw_pure hT rfl ?_ | refine lw_nil ?_ | refine cw_seq ?_ | refine cw_region ?_ | refine qw_then ?_ | refine cw_ret ?_ | refine qw_then_ret ?_))
    exact qw_ret rfl ⟨by simp [oneOr, valI, h], rfl⟩
  · have h' : 48 ≤ c ∧ c ≤ 57 := by
      rcases hc with hc | hc
      · rw [h] at hc; cases hc
      · simpa [digB] using hc
    (repeat (first | (refine lw_conv64 hT rfl rfl rfl ?_ ?_ ?_; iterate 2 omega) | (refine lw_sub8 rfl rfl ?_ ?_ ?_; iterate 2 omega) | refine lw_pure hT rfl ?_ | refine lw_nil ?_ | refine cw_seq ?_ | refine cw_region ?_ | refine qw_then ?_ | refine cw_ret ?_ | refine cw_skip ?_))
    exact qw_ret rfl ⟨by simp [oneOr, valI, h], rfl⟩

theorem bs_extract (s : ByteArray) (a b : Nat) : bs (s.extract a b) = ((bs s).drop a).take (b - a) := by
  simp [bs, ByteArray.data_extract, Array.toList_extract, List.extract_eq_take_drop, List.map_take, List.map_drop]
theorem size_extract_le (s : ByteArray) (a b : Nat) : (s.extract a b).size ≤ s.size := by simp; omega
def headB (l : List Int) : Bool := decide (10 ≤ l.length) && ((l.take 4).all lowB && ((l.drop 4).take 6).all digB)
/-- The sum of so many values, each by its place. -/
def sumTo (l : List Int) : Nat → Int
  | 0 => 0
  | i + 1 => sumTo l i + valI (l.getD i 0) * ((i : Int) + 1)
def sumI (l : List Int) : Int := if headB l then (sumTo l 10).tmod 97 else -1
/-- The number that so many digits make. -/
def numTo (l : List Int) : Nat → Int
  | 0 => 0
  | i + 1 => numTo l i * 10 + valI (l.getD i 0)
def rightB (s : ByteArray) : Bool := decide (s.size = 12) && (((bs s).drop 10).all digB && decide (sumI (bs s) = numTo ((bs s).drop 10) 2))
theorem valI_bd {c : Int} (hc : lowB c = true ∨ digB c = true) : 0 ≤ valI c ∧ valI c ≤ 26 := by
  unfold valI
  split
  · rename_i h; have : 97 ≤ c ∧ c ≤ 122 := by simpa [lowB] using h
    omega
  · rename_i h
    rcases hc with hc | hc
    · exact absurd hc h
    · have : 48 ≤ c ∧ c ≤ 57 := by simpa [digB] using hc
      omega
theorem all_get {p : Int → Bool} {l : List Int} (h : l.all p = true) {i : Nat} (hi : i < l.length) : p (l.getD i 0) = true := by
  have := List.all_eq_true.1 h (l.getD i 0) (by rw [List.getD_eq_getElem?_getD, List.getElem?_eq_getElem hi]; simp)
  exact this
theorem head_at {l : List Int} (h : headB l = true) {i : Nat} (hi : i < 10) : lowB (l.getD i 0) = true ∨ digB (l.getD i 0) = true := by
  simp only [headB, Bool.and_eq_true, decide_eq_true_eq] at h
  obtain ⟨h1, h2, h3⟩ := h
  by_cases h4 : i < 4
  · left
    have := all_get h2 (i := i) (by simp; omega)
    simpa [List.getD_eq_getElem?_getD, List.getElem?_take, h4] using this
  · right
    have := all_get h3 (i := i - 4) (by simp; omega)
    have e : 4 + (i - 4) = i := by omega
    simpa [List.getD_eq_getElem?_getD, List.getElem?_take, List.getElem?_drop, show i - 4 < 6 by omega, e] using this
theorem sumTo_bd {l : List Int} (h : headB l = true) : ∀ i, i ≤ 10 → 0 ≤ sumTo l i ∧ sumTo l i ≤ 260 * i
  | 0, _ => by simp [sumTo]
  | i + 1, hi => by
    have ih := sumTo_bd h i (by omega)
    have hv := valI_bd (head_at h (i := i) (by omega))
    have h1 : 0 ≤ valI (l.getD i 0) * ((i : Int) + 1) := Int.mul_nonneg hv.1 (by omega)
    have h2 : valI (l.getD i 0) * ((i : Int) + 1) ≤ 26 * 10 := Int.mul_le_mul hv.2 (by omega) (by omega) (by omega)
    simp only [sumTo]
    push_cast
    omega
theorem bs_getD (s : ByteArray) (i : Nat) (h : i < s.size) : (bs s).getD i 0 = (s[i].toNat : Int) := by
  rw [List.getD_eq_getElem?_getD, bs_get s i h]; rfl

set_option maxHeartbeats 400000 in
theorem mark_Sum (s : ByteArray) (w : World) (hs : s.size ≤ maxLen) : Ret Tryz.prog 117 [.string s] w fun v w' => v = .int .i64 (sumI (bs s)) ∧ w = w' := by
  have hs' := hs
  unfold maxLen at hs'
  have hno : headB (bs s) = false → sumI (bs s) = -1 := fun h => by simp [sumI, h]
  refine ret_of Tryz.func117 Tryz.ntmps117 rfl rfl rfl ?_
  (repeat (first | refine lw_pure hT rfl ?_ | refine lw_nil ?_ | refine cw_seq ?_ | refine cw_region ?_ | refine qw_then ?_))
  refine lw_guard rfl (fun h1 => ?_) (fun h1 => ?_)
  · have h1 : s.size < 10 := by simp at h1; omega
    (repeat (first | refine lw_pure hT rfl ?_ | refine lw_nil ?_ | refine cw_seq ?_ | refine cw_region ?_ | refine qw_then ?_ | refine cw_ret ?_ | refine qw_then_ret ?_ | (refine lw_goff_t rfl ?_ ?_; focus (first | with_reducible rfl | with_reducible exact Bool.not_false | with_reducible exact Bool.not_true)) | (refine cw_cond_t rfl ?_ ?_; focus (first | with_reducible rfl | with_reducible exact Bool.not_false | with_reducible exact Bool.not_true))))
    exact qw_ret rfl ⟨by rw [hno (by simp [headB, bs_length]; omega)]; rfl, rfl⟩
  · have h1 : 10 ≤ s.size := by simp at h1; omega
    (repeat (first | refine lw_pure hT rfl ?_ | (refine lw_gon_f rfl ?_ ?_; focus (first | with_reducible rfl | with_reducible exact Bool.not_false | with_reducible exact Bool.not_true))))
    refine lw_slice_str hT rfl rfl rfl rfl 0 4 rfl rfl (by omega) (by omega) ?_
    (repeat (refine lw_gon_f rfl ?_ ?_; focus (first | with_reducible rfl | with_reducible exact Bool.not_false | with_reducible exact Bool.not_true)))
    refine lw_call hT rfl rfl (mark_all (s.extract 0 4) (l := []) (c := []) lowB w rfl (fun x w' => mark_lower x w') (Nat.le_trans (size_extract_le _ _ _) hs)) ?_
    rintro _ _ ⟨rfl, rfl⟩
    (repeat (first | refine lw_pure hT rfl ?_ | (refine lw_gon_f rfl ?_ ?_; focus (first | with_reducible rfl | with_reducible exact Bool.not_false | with_reducible exact Bool.not_true))))
    have e1 : (bs (s.extract 0 4)).all lowB = ((bs s).take 4).all lowB := by rw [bs_extract]; simp
    refine lw_guard rfl (fun h2 => ?_) (fun h2 => ?_)
    · (repeat (first | refine lw_pure hT rfl ?_ | refine lw_nil ?_ | refine cw_seq ?_ | refine cw_region ?_ | refine qw_then ?_ | refine cw_ret ?_ | refine qw_then_ret ?_ | (refine lw_goff_t rfl ?_ ?_; focus (first | with_reducible rfl | with_reducible exact Bool.not_false | with_reducible exact Bool.not_true)) | (refine cw_cond_t rfl ?_ ?_; focus (first | with_reducible rfl | with_reducible exact Bool.not_false | with_reducible exact Bool.not_true))))
      exact qw_ret rfl ⟨by rw [hno (by rw [Bool.not_eq_true'] at h2; simp only [headB, ← e1, h2]; simp)]; rfl, rfl⟩
    · (repeat (first | refine lw_pure hT rfl ?_ | (refine lw_gon_f rfl ?_ ?_; focus (first | with_reducible rfl | with_reducible exact Bool.not_false | with_reducible exact Bool.not_true))))
      refine lw_slice_str hT rfl rfl rfl rfl 4 10 rfl rfl (by omega) (by omega) ?_
      (repeat (refine lw_gon_f rfl ?_ ?_; focus (first | with_reducible rfl | with_reducible exact Bool.not_false | with_reducible exact Bool.not_true)))
      refine lw_call hT rfl rfl (mark_all (s.extract 4 10) (l := []) (c := []) digB _ rfl (fun x w' => mark_digit x w') (Nat.le_trans (size_extract_le _ _ _) hs)) ?_
      rintro _ _ ⟨rfl, rfl⟩
      (repeat (first | refine lw_pure hT rfl ?_ | refine lw_nil ?_ | refine qw_then ?_ | (refine lw_gon_f rfl ?_ ?_; focus (first | with_reducible rfl | with_reducible exact Bool.not_false | with_reducible exact Bool.not_true))))
      have e2 : (bs (s.extract 4 10)).all digB = (((bs s).drop 4).take 6).all digB := by rw [bs_extract]
      refine cw_cond rfl (fun h3 => ?_) (fun h3 => ?_)
      · (repeat (first | refine lw_pure hT rfl ?_ | refine lw_nil ?_ | refine cw_seq ?_ | refine cw_region ?_ | refine qw_then ?_ | refine cw_ret ?_ | refine qw_then_ret ?_))
        exact qw_ret rfl ⟨by rw [hno (by rw [Bool.not_eq_true'] at h3; simp only [headB, ← e1, ← e2, h3]; simp)]; rfl, rfl⟩
      · have hh : headB (bs s) = true := by
          simp only [headB, ← e1, ← e2]; simp at h2 h3; simp [bs_length, h1]; exact ⟨h2, h3⟩
        (repeat (first | refine lw_pure hT rfl ?_ | refine lw_nil ?_ | refine cw_seq ?_ | refine cw_region ?_ | refine qw_then ?_ | refine cw_skip ?_ | refine cw_block ?_))
        refine cw_loop (fun i : Nat => [(0, .string s), (3, .int .i64 (sumTo (bs s) i)), (20, .int .i64 (i : Nat))]) (fun i w' => w' = w ∧ i ≤ 10) (fun i => 10 - i) 0 (by repeat (first | exact trivial | refine ⟨rfl, ?_⟩)) ⟨rfl, by omega⟩ ?_
        rintro i _ ⟨rfl, hi⟩
        (repeat (first | refine lw_pure hT rfl ?_ | refine lw_nil ?_ | refine cw_seq ?_ | refine cw_region ?_ | refine qw_then ?_))
        refine cw_cond rfl (fun h => ?_) (fun h => ?_)
        · have hi' : i < 10 := by simp at h; omega
          have hlt : i < s.size := by omega
          have hv := head_at hh hi'
          have hb := sumTo_bd hh i (by omega)
          rw [bs_getD s i hlt] at hv
          have hvb := valI_bd hv
          have hm1 : 0 ≤ valI (s[i].toNat : Int) * ((i : Int) + 1) := Int.mul_nonneg hvb.1 (by omega)
          have hm2 : valI (s[i].toNat : Int) * ((i : Int) + 1) ≤ 26 * 10 := Int.mul_le_mul hvb.2 (by omega) (by omega) (by omega)
          (repeat (first | refine lw_pure hT rfl ?_ | refine lw_nil ?_ | refine cw_seq ?_ | refine cw_region ?_ | refine qw_then ?_ | refine cw_skip ?_ | refine cw_block ?_))
          refine lw_byte hT rfl rfl rfl i rfl hlt ?_
          skip
          refine lw_call hT rfl rfl (mark_value _ _ hv) ?_
          rintro _ _ ⟨rfl, rfl⟩
          (repeat (first | (refine lw_add rfl rfl ?_ ?_ ?_; iterate 2 omega) | (refine lw_mul rfl rfl ?_ ?_ ?_; iterate 2 omega) | refine lw_pure hT rfl ?_ | refine lw_nil ?_ | refine cw_region ?_ | refine qw_then ?_ | refine qw_block ?_))
          refine qw_round (i + 1) ?_ ⟨rfl, by omega⟩ (by omega)
          simp only [subB, sumTo, bs_getD s i hlt]
          exact (by repeat (first | exact trivial | refine ⟨rfl, ?_⟩))
        · have : i = 10 := by simp at h; omega
          subst this
          (repeat (first | refine lw_pure hT rfl ?_ | refine cw_seq ?_ | refine cw_region ?_ | refine qw_then ?_ | refine cw_exit ?_ | refine qw_block_exit ?_ | refine qw_then_exit ?_))
          refine lw_rem rfl rfl (by decide) ?_
          (repeat (first | refine lw_pure hT rfl ?_ | refine lw_nil ?_ | refine qw_then ?_ | refine cw_ret ?_))
          exact qw_ret rfl ⟨by simp [oneOr, sumI, hh], rfl⟩

theorem numTo_bd {l : List Int} (h : l.all digB = true) : ∀ i, i ≤ l.length → i ≤ 6 → 0 ≤ numTo l i ∧ numTo l i < 10 ^ i
  | 0, _, _ => by simp [numTo]
  | i + 1, hi, h6 => by
    have ih := numTo_bd h i (by omega) (by omega)
    have hv : 0 ≤ valI (l.getD i 0) ∧ valI (l.getD i 0) ≤ 9 := by
      have hd := all_get h (i := i) (by omega)
      have hn : lowB (l.getD i 0) = false := by simp [lowB, digB] at hd ⊢; omega
      simp only [valI, hn]
      simp [digB] at hd
      simp; omega
    simp only [numTo]
    rw [Int.pow_succ]
    omega
theorem mark_number (s : ByteArray) (w : World) (h6 : s.size ≤ 6) (hd : (bs s).all digB = true) : Ret Tryz.prog 118 [.string s] w fun v w' => v = .int .i64 (numTo (bs s) s.size) ∧ w = w' := by
  refine ret_of Tryz.func118 Tryz.ntmps118 rfl rfl rfl ?_
  (repeat (first | refine lw_pure hT rfl ?_ | refine lw_nil ?_ | refine cw_seq ?_ | refine cw_region ?_ | refine qw_then ?_ | refine cw_block ?_))
  refine cw_loop (fun i : Nat => [(0, .string s), (3, .int .i64 (numTo (bs s) i)), (6, .int .i64 (s.size : Nat)), (7, .int .i64 (i : Nat))]) (fun i w' => w = w' ∧ i ≤ s.size) (fun i => s.size - i) 0 (by repeat (first | exact trivial | refine ⟨rfl, ?_⟩)) ⟨rfl, by omega⟩ ?_
  rintro i _ ⟨rfl, hi⟩
  (repeat (first | refine lw_pure hT rfl ?_ | refine lw_nil ?_ | refine cw_seq ?_ | refine cw_region ?_ | refine qw_then ?_))
  refine cw_cond rfl (fun h => ?_) (fun h => ?_)
  · have hlt : i < s.size := by simp at h; omega
    have hb := numTo_bd hd i (by rw [bs_length]; omega) (by omega)
    have hb' : numTo (bs s) i < 1000000 := by
      have : (10 : Int) ^ i ≤ 10 ^ 6 := by
        have : i = 0 ∨ i = 1 ∨ i = 2 ∨ i = 3 ∨ i = 4 ∨ i = 5 ∨ i = 6 := by omega
        rcases this with rfl | rfl | rfl | rfl | rfl | rfl | rfl <;> decide
      omega
    have hv : lowB (s[i].toNat : Int) = true ∨ digB (s[i].toNat : Int) = true := by
      right; rw [← bs_getD s i hlt]; exact all_get hd (by rw [bs_length]; exact hlt)
    have hvb := valI_bd hv
    (repeat (first | (refine lw_mul rfl rfl ?_ ?_ ?_; iterate 2 omega) | refine lw_pure hT rfl ?_ | refine lw_nil ?_ | refine cw_seq ?_ | refine cw_region ?_ | refine qw_then ?_ | refine cw_skip ?_ | refine cw_block ?_))
    refine lw_byte hT rfl rfl rfl i rfl hlt ?_
    skip
    refine lw_call hT rfl rfl (mark_value _ _ hv) ?_
    rintro _ _ ⟨rfl, rfl⟩
    (repeat (first | (refine lw_add rfl rfl ?_ ?_ ?_; iterate 2 omega) | refine lw_pure hT rfl ?_ | refine lw_nil ?_ | refine cw_region ?_ | refine qw_then ?_ | refine qw_block ?_))
    refine qw_round (i + 1) ?_ ⟨rfl, by omega⟩ (by omega)
    simp only [subB, numTo, bs_getD s i hlt]
    exact (by repeat (first | exact trivial | refine ⟨rfl, ?_⟩))
  · have : i = s.size := by simp at h; omega
    subst this
    (repeat (first | refine lw_pure hT rfl ?_ | refine lw_nil ?_ | refine cw_seq ?_ | refine cw_region ?_ | refine qw_then ?_ | refine cw_ret ?_ | refine cw_exit ?_ | refine qw_block_exit ?_ | refine qw_then_exit ?_))
    exact qw_ret rfl ⟨rfl, rfl⟩

set_option maxHeartbeats 400000 in
theorem mark_Right (s : ByteArray) (w : World) (hs : s.size ≤ maxLen) : Ret Tryz.prog 98 [.string s] w fun v w' => v = .bool (rightB s) ∧ Ex w w' := by
  refine ret_of Tryz.func98 Tryz.ntmps98 rfl rfl rfl ?_
  (repeat (first | refine lw_pure hT rfl ?_ | refine lw_nil ?_ | refine cw_seq ?_ | refine cw_region ?_ | refine qw_then ?_))
  refine cw_draw hM (fun w' => Ex w w') [] rfl rfl (by repeat (first | with_reducible refine nop_then ?_ | with_reducible refine nop_block ?_ | with_reducible exact nop_body)) (fun w1 hx _ => ⟨hx, ?_⟩)
  (refine rw_takeP 0 rfl rfl (by kernel_rfl) (by kernel_rfl) (by kernel_rfl) (by kernel_rfl) rfl (yo_pure hT rfl) ?_; refine rw_takeP 1 rfl rfl (by kernel_rfl) (by kernel_rfl) (by kernel_rfl) (by kernel_rfl) rfl (yo_pure hT rfl) ?_; refine rw_takeP 2 rfl rfl (by kernel_rfl) (by kernel_rfl) (by kernel_rfl) (by kernel_rfl) rfl (yo_pure hT rfl) ?_; refine rw_takeP 3 rfl rfl (by kernel_rfl) (by kernel_rfl) (by kernel_rfl) (by kernel_rfl) rfl (yo_pure hT rfl) ?_)
  refine rw_split (d := 6) rfl (fun h1 => ?_) (fun h1 => ?_)
  · have h1 : s.size = 12 := by simp at h1; omega
    have e1 : bs (s.extract 10 12) = (bs s).drop 10 := by rw [bs_extract, List.take_of_length_le (by simp [bs_length, h1])]
    have z1 : (s.extract 10 12).size = 2 := by simp; omega
    (refine rw_takeP 4 rfl rfl (by kernel_rfl) (by kernel_rfl) (by kernel_rfl) (by kernel_rfl) rfl (yo_on rfl rfl (yo_pure hT rfl)) ?_)
    refine rw_takeP 5 rfl rfl (by kernel_rfl) (by kernel_rfl) (by kernel_rfl) (by kernel_rfl) rfl (yo_on rfl rfl (yo_slice_str hT rfl rfl rfl rfl 10 12 rfl (by simp [h1]) (by omega) (by omega))) ?_
    refine rw_one 6 rfl (by kernel_rfl) rfl (fun hcl => ?_)
    (repeat (refine lw_gon_t rfl ?_ ?_; focus (first | with_reducible rfl | with_reducible exact Bool.not_false | with_reducible exact Bool.not_true)))
    refine lw_call hT rfl rfl (mark_all (s.extract 10 12) (l := []) (c := []) digB w1 rfl (fun x w' => mark_digit x w') (Nat.le_trans (size_extract_le _ _ _) hs)) ?_
    rintro _ _ ⟨rfl, rfl⟩
    (repeat (refine lw_nil ?_))
    refine qw_rw (by repeat (first | with_reducible refine nop_then ?_ | with_reducible refine nop_block ?_ | with_reducible exact nop_body)) hcl (fun _ => hx) ?_
    (refine rw_takeP 7 rfl rfl (by kernel_rfl) (by kernel_rfl) (by kernel_rfl) (by kernel_rfl) rfl (yo_pure hT rfl) ?_; refine rw_takeP 8 rfl rfl (by kernel_rfl) (by kernel_rfl) (by kernel_rfl) (by kernel_rfl) rfl (yo_pure hT rfl) ?_)
    refine rw_split (d := 11) rfl (fun h2 => ?_) (fun h2 => ?_)
    · (refine rw_takeP 9 rfl rfl (by kernel_rfl) (by kernel_rfl) (by kernel_rfl) (by kernel_rfl) rfl (yo_on rfl rfl (yo_pure hT rfl)) ?_; refine rw_takeP 11 rfl rfl (by kernel_rfl) (by kernel_rfl) (by kernel_rfl) (by kernel_rfl) rfl (yo_on rfl rfl (yo_pure hT rfl)) ?_)
      refine rw_takeP 12 rfl rfl (by kernel_rfl) (by kernel_rfl) (by kernel_rfl) (by kernel_rfl) rfl (yo_on rfl rfl (yo_slice_str hT rfl rfl rfl rfl 10 12 rfl (by simp [h1]) (by omega) (by omega))) ?_
      refine rw_one 10 rfl (by kernel_rfl) rfl (fun hcl => ?_)
      (repeat (refine lw_gon_t rfl ?_ ?_; focus (first | with_reducible rfl | with_reducible exact Bool.not_false | with_reducible exact Bool.not_true)))
      refine lw_call hT rfl rfl (mark_Sum s w1 hs) ?_
      rintro _ _ ⟨rfl, rfl⟩
      (repeat (refine lw_nil ?_))
      refine qw_rw (by repeat (first | with_reducible refine nop_then ?_ | with_reducible refine nop_block ?_ | with_reducible exact nop_body)) hcl (fun _ => hx) ?_
      refine rw_one 13 rfl (by kernel_rfl) rfl (fun hcl => ?_)
      (repeat (refine lw_gon_t rfl ?_ ?_; focus (first | with_reducible rfl | with_reducible exact Bool.not_false | with_reducible exact Bool.not_true)))
      refine lw_call hT rfl rfl (mark_number (s.extract 10 12) w1 (by omega) h2) ?_
      rintro _ _ ⟨rfl, rfl⟩
      (repeat (refine lw_nil ?_))
      refine qw_rw (by repeat (first | with_reducible refine nop_then ?_ | with_reducible refine nop_block ?_ | with_reducible exact nop_body)) hcl (fun _ => hx) ?_
      (refine rw_takeP 14 rfl rfl (by kernel_rfl) (by kernel_rfl) (by kernel_rfl) (by kernel_rfl) rfl (yo_on rfl rfl (yo_pure hT rfl)) ?_)
      (refine rw_takeP 15 rfl rfl (by kernel_rfl) (by kernel_rfl) (by kernel_rfl) (by kernel_rfl) rfl (yo_pure hT rfl) ?_; refine rw_takeP 16 rfl rfl (by kernel_rfl) (by kernel_rfl) (by kernel_rfl) (by kernel_rfl) rfl (yo_pure hT rfl) ?_)
      refine rw_done (by kernel_rfl) ?_
      (repeat (first | refine qw_then ?_ | refine cw_ret ?_))
      refine qw_ret rfl ⟨?_, hx⟩
      rw [e1] at h2
      simp [oneOr, rightB, h1, h2, e1, z1]
    · (refine rw_takeP 9 rfl rfl (by kernel_rfl) (by kernel_rfl) (by kernel_rfl) (by kernel_rfl) rfl (yo_off rfl rfl) ?_; refine rw_takeP 11 rfl rfl (by kernel_rfl) (by kernel_rfl) (by kernel_rfl) (by kernel_rfl) rfl (yo_off rfl rfl) ?_; refine rw_takeP 12 rfl rfl (by kernel_rfl) (by kernel_rfl) (by kernel_rfl) (by kernel_rfl) rfl (yo_off rfl rfl) ?_; refine rw_takeP 10 rfl rfl (by kernel_rfl) (by kernel_rfl) (by kernel_rfl) (by kernel_rfl) rfl (yo_off rfl rfl) ?_; refine rw_takeP 13 rfl rfl (by kernel_rfl) (by kernel_rfl) (by kernel_rfl) (by kernel_rfl) rfl (yo_off rfl rfl) ?_; refine rw_takeP 14 rfl rfl (by kernel_rfl) (by kernel_rfl) (by kernel_rfl) (by kernel_rfl) rfl (yo_off rfl rfl) ?_)
      (refine rw_takeP 15 rfl rfl (by kernel_rfl) (by kernel_rfl) (by kernel_rfl) (by kernel_rfl) rfl (yo_pure hT rfl) ?_; refine rw_takeP 16 rfl rfl (by kernel_rfl) (by kernel_rfl) (by kernel_rfl) (by kernel_rfl) rfl (yo_pure hT rfl) ?_)
      refine rw_done (by kernel_rfl) ?_
      (repeat (first | refine qw_then ?_ | refine cw_ret ?_))
      refine qw_ret rfl ⟨?_, hx⟩
      rw [e1] at h2
      simp [oneOr, rightB, h2]
  · have h1 : s.size ≠ 12 := by simp at h1; omega
    (refine rw_takeP 4 rfl rfl (by kernel_rfl) (by kernel_rfl) (by kernel_rfl) (by kernel_rfl) rfl (yo_off rfl rfl) ?_; refine rw_takeP 5 rfl rfl (by kernel_rfl) (by kernel_rfl) (by kernel_rfl) (by kernel_rfl) rfl (yo_off rfl rfl) ?_; refine rw_takeP 6 rfl rfl (by kernel_rfl) (by kernel_rfl) (by kernel_rfl) (by kernel_rfl) rfl (yo_off rfl rfl) ?_)
    (refine rw_takeP 7 rfl rfl (by kernel_rfl) (by kernel_rfl) (by kernel_rfl) (by kernel_rfl) rfl (yo_pure hT rfl) ?_; refine rw_takeP 8 rfl rfl (by kernel_rfl) (by kernel_rfl) (by kernel_rfl) (by kernel_rfl) rfl (yo_pure hT rfl) ?_)
    (refine rw_takeP 9 rfl rfl (by kernel_rfl) (by kernel_rfl) (by kernel_rfl) (by kernel_rfl) rfl (yo_off rfl rfl) ?_; refine rw_takeP 11 rfl rfl (by kernel_rfl) (by kernel_rfl) (by kernel_rfl) (by kernel_rfl) rfl (yo_off rfl rfl) ?_; refine rw_takeP 12 rfl rfl (by kernel_rfl) (by kernel_rfl) (by kernel_rfl) (by kernel_rfl) rfl (yo_off rfl rfl) ?_; refine rw_takeP 10 rfl rfl (by kernel_rfl) (by kernel_rfl) (by kernel_rfl) (by kernel_rfl) rfl (yo_off rfl rfl) ?_; refine rw_takeP 13 rfl rfl (by kernel_rfl) (by kernel_rfl) (by kernel_rfl) (by kernel_rfl) rfl (yo_off rfl rfl) ?_; refine rw_takeP 14 rfl rfl (by kernel_rfl) (by kernel_rfl) (by kernel_rfl) (by kernel_rfl) rfl (yo_off rfl rfl) ?_)
    (refine rw_takeP 15 rfl rfl (by kernel_rfl) (by kernel_rfl) (by kernel_rfl) (by kernel_rfl) rfl (yo_pure hT rfl) ?_; refine rw_takeP 16 rfl rfl (by kernel_rfl) (by kernel_rfl) (by kernel_rfl) (by kernel_rfl) rfl (yo_pure hT rfl) ?_)
    refine rw_done (by kernel_rfl) ?_
    (repeat (first | refine qw_then ?_ | refine cw_ret ?_))
    refine qw_ret rfl ⟨?_, hx⟩
    simp [oneOr, rightB, h1]
end Go.Proofs.YtfbjpfgglgffgaaGreat
