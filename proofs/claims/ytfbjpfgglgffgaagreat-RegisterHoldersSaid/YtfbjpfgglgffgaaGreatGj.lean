/- Plain lemmas: rising lists of texts; the numbers of bills, rising. -/
import Derived.Test.YtfbjpfgglgffgaaGreatGg
import Derived.Sort.Walk0
set_option linter.unusedVariables false
set_option linter.unusedSimpArgs false
set_option linter.unusedSectionVars false
set_option linter.unnecessarySimpa false
namespace Go.Proofs.YtfbjpfgglgffgaaGreat
open Go Go.SK

/-- Go's '<' on texts. -/
def ltB (x y : ByteArray) : Bool := Op.bytesLess x.toList y.toList
theorem ltB_iff {x y : ByteArray} : ltB x y = true ↔ x.toList < y.toList := by unfold ltB; rw [bytesLess_eq]; simp
theorem ltB_trans {x y z : ByteArray} (h1 : ltB x y = true) (h2 : ltB y z = true) : ltB x z = true := by rw [ltB_iff] at *; exact List.lt_trans h1 h2
theorem ltB_irrefl (x : ByteArray) : ltB x x = false := by
  cases h : ltB x x with
  | false => rfl
  | true => rw [ltB_iff] at h; exact absurd h (List.lt_irrefl _)
theorem ltB_asymm {x y : ByteArray} (h1 : ltB x y = true) (h2 : ltB y x = true) : x = y := by
  rw [ltB_iff] at *
  exact absurd (List.lt_trans h1 h2) (List.lt_irrefl _)
theorem ltB_total {x y : ByteArray} (h : ltB x y = false) (hne : x ≠ y) : ltB y x = true := by
  rw [ltB_iff]
  have h1 : ¬ x.toList < y.toList := fun h' => by rw [ltB_iff.2 h'] at h; cases h
  have h2 : y.toList ≤ x.toList := List.not_lt.1 h1
  rcases List.le_iff_lt_or_eq.1 h2 with h3 | h3
  · exact h3
  · exact absurd (bytes_eq.1 h3.symm) hne
def Rising (l : List ByteArray) : Prop := l.Pairwise fun x y => ltB x y = true
theorem Rising.eq {l l' : List ByteArray} (h : Rising l) (h' : Rising l') (hp : l.Perm l') : l = l' :=
  List.Perm.eq_of_pairwise (le := fun x y => ltB x y = true) (fun _ _ _ _ h1 h2 => ltB_asymm h1 h2) h h' hp
theorem Rising.filter {l : List ByteArray} (h : Rising l) (p : ByteArray → Bool) : Rising (l.filter p) := List.Pairwise.filter p h
def putL (l : List ByteArray) (s : ByteArray) : List ByteArray := l.takeWhile (fun y => ltB y s) ++ s :: l.dropWhile (fun y => ltB y s)
theorem putL_at {l : List ByteArray} {s : ByteArray} {k : Nat} (hk : k ≤ l.length) (h1 : ∀ j (hj : j < l.length), j < k → ltB l[j] s = true) (h2 : ∀ hj : k < l.length, ltB l[k] s = false) : putL l s = l.take k ++ s :: l.drop k := by
  have key : ∀ (l : List ByteArray) (k : Nat), k ≤ l.length → (∀ j (hj : j < l.length), j < k → ltB l[j] s = true) → (∀ hj : k < l.length, ltB l[k] s = false) → l.takeWhile (fun y => ltB y s) = l.take k ∧ l.dropWhile (fun y => ltB y s) = l.drop k := by
    intro l
    induction l with
    | nil => intro k hk _ _; simp at hk; subst hk; exact ⟨rfl, rfl⟩
    | cons a l ih =>
      intro k hk h1 h2
      cases k with
      | zero =>
        have := h2 (by simp)
        simp only [List.getElem_cons_zero] at this
        simp [this]
      | succ k =>
        have h0 := h1 0 (by simp) (by omega)
        simp only [List.getElem_cons_zero] at h0
        obtain ⟨g1, g2⟩ := ih k (by simpa using hk) (fun j hj hjk => by have := h1 (j + 1) (by simp; omega) (by omega); simpa using this) (fun hj => by have := h2 (by simp; omega); simpa using this)
        simp [h0, g1, g2]
  unfold putL
  obtain ⟨g1, g2⟩ := key l k hk h1 h2
  rw [g1, g2]
theorem putL_perm (l : List ByteArray) (s : ByteArray) : (putL l s).Perm (s :: l) := by
  unfold putL
  have e := List.takeWhile_append_dropWhile (p := fun y => ltB y s) (l := l)
  have h := List.perm_middle (a := s) (l₁ := l.takeWhile (fun y => ltB y s)) (l₂ := l.dropWhile (fun y => ltB y s))
  rwa [e] at h
theorem putL_len (l : List ByteArray) (s : ByteArray) : (putL l s).length = l.length + 1 := by
  have := (putL_perm l s).length_eq
  simpa using this
theorem putL_rising {l : List ByteArray} {s : ByteArray} (h : Rising l) (hs : s ∉ l) : Rising (putL l s) := by
  induction l with
  | nil => exact List.pairwise_singleton _ _
  | cons a l ih =>
    obtain ⟨ha, hl⟩ := List.pairwise_cons.1 h
    have hsa : s ≠ a := fun e => hs (by rw [e]; exact List.mem_cons_self)
    have hsl : s ∉ l := fun e => hs (List.mem_cons_of_mem _ e)
    by_cases e : ltB a s = true
    · have ep : putL (a :: l) s = a :: putL l s := by simp [putL, e]
      rw [ep]
      refine List.pairwise_cons.2 ⟨fun y hy => ?_, ih hl hsl⟩
      rcases List.mem_cons.1 ((putL_perm l s).mem_iff.1 hy) with rfl | hy
      · exact e
      · exact ha y hy
    · have e' : ltB a s = false := by simpa using e
      have ep : putL (a :: l) s = s :: a :: l := by simp [putL, e']
      rw [ep]
      have hsa' := ltB_total e' (fun e => hsa e.symm)
      refine List.pairwise_cons.2 ⟨fun y hy => ?_, h⟩
      rcases List.mem_cons.1 hy with rfl | hy
      · exact hsa'
      · exact ltB_trans hsa' (ha y hy)
/-- Texts put one by one. -/
def putAll (l : List ByteArray) : List ByteArray := l.foldl putL []
theorem putAll_snoc (l : List ByteArray) (s : ByteArray) : putAll (l ++ [s]) = putL (putAll l) s := by simp [putAll]
theorem foldl_perm : ∀ (l acc : List ByteArray), (l.foldl putL acc).Perm (acc ++ l)
  | [], acc => by simp
  | s :: l, acc => by
    have h := foldl_perm l (putL acc s)
    have h2 : (putL acc s ++ l).Perm (acc ++ s :: l) := ((putL_perm acc s).append_right l).trans (by simpa using (List.perm_middle (a := s) (l₁ := acc) (l₂ := l)).symm)
    exact h.trans h2
theorem putAll_perm (l : List ByteArray) : (putAll l).Perm l := by simpa [putAll] using foldl_perm l []
theorem foldl_rising : ∀ (l acc : List ByteArray), Rising acc → (acc ++ l).Nodup → Rising (l.foldl putL acc)
  | [], acc, h, _ => h
  | s :: l, acc, h, hn => by
    have h1 : (s :: (acc ++ l)).Nodup := (List.perm_middle (a := s) (l₁ := acc) (l₂ := l)).nodup_iff.1 hn
    have h2 : s ∉ acc := fun hs => (List.nodup_cons.1 h1).1 (List.mem_append_left _ hs)
    refine foldl_rising l (putL acc s) (putL_rising h h2) ?_
    exact (((putL_perm acc s).append_right l).nodup_iff).2 (by simpa using h1)
theorem putAll_rising {l : List ByteArray} (h : l.Nodup) : Rising (putAll l) := foldl_rising l [] List.Pairwise.nil (by simpa using h)
def RegD.nums (r : RegD) : List ByteArray := r.l.map (·.bill.number)
theorem RegD.Nd.nums {r : RegD} (h : r.Nd) : r.nums.Nodup := by
  unfold RegD.nums List.Nodup
  rw [List.pairwise_iff_getElem]
  intro i j hi hj hij he
  rw [List.length_map] at hi hj
  rw [List.getElem_map, List.getElem_map] at he
  have := h i j _ _ (List.getElem?_eq_getElem hi) (List.getElem?_eq_getElem hj) he
  omega
/-- Does somebody hold a live original of a live bill? -/
def EntD.holds (e : EntD) (who : ByteArray) : Bool := decide (e.state = 0) && e.ps.any fun q => decide (q.state = 0) && decide (q.holder = who)
def RegD.holdsN (r : RegD) (who n : ByteArray) : Bool := match r.at? n with
  | none => false
  | some e => e.holds who
theorem at_self {r : RegD} (h : r.Nd) {e : EntD} (he : e ∈ r.l) : r.at? e.bill.number = some e := by
  cases hat : r.at? e.bill.number with
  | none => exact absurd rfl (at_none hat e he)
  | some x =>
    obtain ⟨hn, i, hi⟩ := at_some hat
    obtain ⟨j, hj⟩ := List.getElem?_of_mem he
    have := h i j x e hi hj hn.symm
    subst this
    rw [hi] at hj; cases hj; rfl
theorem nums_filter {r : RegD} (h : r.Nd) (who : ByteArray) : r.nums.filter (r.holdsN who) = (r.l.filter fun e => e.holds who).map (·.bill.number) := by
  unfold RegD.nums
  rw [List.filter_map]
  congr 1
  apply List.filter_congr
  intro e he
  simp only [Function.comp, RegD.holdsN, at_self h he]
/-- The bills of somebody, by the document and by the program. -/
theorem of_eq {r : RegD} (h : r.Nd) (who : ByteArray) {L : List ByteArray} (hL : Rising L) (hp : L.Perm r.nums) : L.filter (r.holdsN who) = putAll ((r.l.filter fun e => e.holds who).map (·.bill.number)) := by
  refine Rising.eq (hL.filter _) (putAll_rising ?_) ?_
  · rw [← nums_filter h]; exact List.Pairwise.filter _ h.nums
  · rw [← nums_filter h]
    exact (hp.filter _).trans (putAll_perm _).symm
theorem bills_eq {r : RegD} (h : r.Nd) {L : List ByteArray} (hL : Rising L) (hp : L.Perm r.nums) : L = putAll r.nums := Rising.eq hL (putAll_rising h.nums) (hp.trans (putAll_perm _).symm)
end Go.Proofs.YtfbjpfgglgffgaaGreat
