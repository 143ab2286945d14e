/- Contracts of the library's generic functions on slices, at the types at which the program uses them. -/
import Derived.Test.YtfbjpfgglgffgaaGreatCb
set_option linter.unusedVariables false
set_option linter.unusedSimpArgs false
set_option linter.unusedSectionVars false
set_option linter.unnecessarySimpa false
namespace Go.Proofs.YtfbjpfgglgffgaaGreat
open Go Go.SK

def fidx {α : Type} (p : α → Bool) (l : List α) : Int := match l.findIdx? p with
  | some i => i
  | none => -1
theorem fidx_ge {α : Type} (p : α → Bool) (l : List α) : decide (fidx p l ≥ 0) = l.any p := by
  unfold fidx
  cases h : l.findIdx? p with
  | none =>
    have := List.findIdx?_eq_none_iff.1 h
    have e : l.any p = false := by rw [List.any_eq_false]; intro x hx; simp [this x hx]
    rw [e]; rfl
  | some i =>
    obtain ⟨hi, hp, _⟩ := List.findIdx?_eq_some_iff_getElem.1 h
    have e : l.any p = true := List.any_eq_true.2 ⟨_, List.getElem_mem hi, hp⟩
    rw [e]; simp
theorem fidx_at {α : Type} {p : α → Bool} {l : List α} {i : Nat} (hi : i < l.length) (hp : p l[i] = true) (hb : ∀ j (hj : j < i), p (l[j]'(by omega)) = false) : fidx p l = i := by
  unfold fidx
  rw [List.findIdx?_eq_some_iff_getElem.2 ⟨hi, hp, fun j hj => by simp [hb j hj]⟩]
theorem fidx_none {α : Type} {p : α → Bool} {l : List α} (hb : ∀ j (hj : j < l.length), p l[j] = false) : fidx p l = -1 := by
  unfold fidx
  rw [List.findIdx?_eq_none_iff.2 fun x hx => by obtain ⟨j, hj, rfl⟩ := List.mem_iff_getElem.1 hx; exact hb j hj]
/-- A slice of strings. -/
abbrev SlS (A : Nat → Prop) (w : World) (v : Value) (l : List ByteArray) : Prop := Sl A w v 1 (l.map fun s => [Value.string s])

theorem idxf_str {α : Type} (row : α → List Value) (ev : α → Value) (hev : ∀ x, row x = [ev x]) {A : Nat → Prop} {v : Value} {l : List α} (p : α → Bool) {f : Nat} {fi cp : List Value} (w : World) (hS : Sl A w v 1 (l.map row)) (hf : memN T.fns f = true)
    (hcl : ∀ x ∈ l, ∀ w', Ex w w' → Ret Tryz.prog f (fi ++ [ev x] ++ cp) w' fun u w'' => u = .bool (p x) ∧ Ex w' w'') :
    Ret Tryz.prog 72 [v, .func (.func f) ⟨fi⟩ ⟨cp⟩] w fun u w' => u = .int .i64 (fidx p l) ∧ Ex w w' := by
  have hm := hS.small
  obtain ⟨a, cap, rfl, hz, hr⟩ := hS.is
  simp only [List.length_map] at *
  unfold maxLen at hm
  refine ret_of Tryz.func72 Tryz.ntmps72 rfl rfl rfl ?_
  (repeat (first | refine lw_pure hT rfl ?_ | refine lw_nil ?_ | refine cw_seq ?_ | refine cw_region ?_ | refine qw_then ?_ | refine cw_block ?_))
  refine cw_loop (fun i : Nat => [(0, .slice a l.length cap), (1, .func (.func f) ⟨fi⟩ ⟨cp⟩), (7, .int .i64 (l.length : Nat)), (8, .int .i64 (i : Nat))]) (fun i w' => Ex w w' ∧ i ≤ l.length ∧ ∀ j (hj : j < l.length), j < i → p l[j] = false) (fun i => l.length - i) 0 (by repeat (first | exact trivial | refine ⟨rfl, ?_⟩)) ⟨Ext.refl _ _, Nat.zero_le _, fun j _ hj => by omega⟩ ?_
  rintro i w' ⟨hx, hi, hb⟩
  (repeat (first | refine lw_pure hT rfl ?_ | refine lw_nil ?_ | refine cw_seq ?_ | refine cw_region ?_ | refine qw_then ?_))
  refine cw_cond rfl (fun h => ?_) (fun h => ?_)
  · have hlt : i < l.length := by simpa using h
    have hne : l.map row ≠ [] := by intro e; simp at e; subst e; simp at hlt
    obtain ⟨b, o, rfl, hA, hrd⟩ := hr hne
    obtain ⟨hlen, hrd⟩ := hrd i (row l[i]) (by simp [hlt])
    (repeat (first | refine lw_pure hT rfl ?_ | refine lw_nil ?_ | refine cw_seq ?_ | refine cw_region ?_ | refine qw_then ?_ | refine cw_skip ?_ | refine cw_block ?_))
    refine lw_index hT rfl rfl rfl i rfl hlt ?_
    skip
    refine lw_load hT rfl rfl (v := ev l[i]) (hx.cell (hrd 0 _ (by rw [hev]; rfl))) ?_
    skip
    refine lw_call_fn hT rfl hf rfl (hcl l[i] (List.getElem_mem hlt) w' hx) ?_
    rintro _ w2 ⟨rfl, hx2⟩
    (repeat (first | refine lw_nil ?_ | refine qw_then ?_))
    refine cw_cond rfl (fun h => ?_) (fun h => ?_)
    · (repeat (first | refine lw_pure hT rfl ?_ | refine lw_nil ?_ | refine cw_seq ?_ | refine cw_region ?_ | refine qw_then ?_ | refine cw_ret ?_ | refine qw_then_ret ?_ | refine qw_block_ret ?_))
      exact qw_ret rfl ⟨by rw [fidx_at hlt h fun j hj => hb j (by omega) hj]; rfl, hx.trans hx2⟩
    · (repeat (first | (refine lw_add rfl rfl ?_ ?_ ?_; iterate 2 omega) | refine lw_pure hT rfl ?_ | refine lw_nil ?_ | refine cw_region ?_ | refine qw_then ?_ | refine cw_skip ?_ | refine qw_block ?_))
      refine qw_round (i + 1) (by repeat (first | exact trivial | refine ⟨rfl, ?_⟩)) ⟨hx.trans hx2, hlt, fun j hj hji => ?_⟩ (by omega)
      by_cases e : j = i
      · subst e; exact h
      · exact hb j hj (by omega)
  · have : i = l.length := by simp at h; omega
    subst this
    (repeat (first | refine lw_pure hT rfl ?_ | refine lw_nil ?_ | refine cw_seq ?_ | refine cw_region ?_ | refine qw_then ?_ | refine cw_ret ?_ | refine cw_exit ?_ | refine qw_block_exit ?_ | refine qw_then_exit ?_))
    exact qw_ret rfl ⟨by rw [fidx_none fun j hj => hb j hj hj]; rfl, hx⟩
theorem cnf_str {α : Type} (row : α → List Value) (ev : α → Value) (hev : ∀ x, row x = [ev x]) {A : Nat → Prop} {v : Value} {l : List α} (p : α → Bool) {f : Nat} {fi cp : List Value} (w : World) (hS : Sl A w v 1 (l.map row)) (hf : memN T.fns f = true)
    (hcl : ∀ x ∈ l, ∀ w', Ex w w' → Ret Tryz.prog f (fi ++ [ev x] ++ cp) w' fun u w'' => u = .bool (p x) ∧ Ex w' w'') :
    Ret Tryz.prog 41 [v, .func (.func f) ⟨fi⟩ ⟨cp⟩] w fun u w' => u = .bool (l.any p) ∧ Ex w w' := by
  refine ret_of Tryz.func41 Tryz.ntmps41 rfl rfl rfl ?_
  (repeat (first | refine lw_pure hT rfl ?_ | refine lw_nil ?_ | refine cw_seq ?_ | refine cw_region ?_ | refine qw_then ?_))
  refine lw_call hT rfl rfl (idxf_str row ev hev p w hS hf hcl) ?_
  rintro _ w' ⟨rfl, hx⟩
  (repeat (first | refine lw_pure hT rfl ?_ | refine lw_nil ?_ | refine qw_then ?_ | refine cw_ret ?_))
  exact qw_ret rfl ⟨by rw [fidx_ge]; rfl, hx⟩

theorem idxf_ptr {α : Type} (row : α → List Value) (ev : α → Value) (hev : ∀ x, row x = [ev x]) {A : Nat → Prop} {v : Value} {l : List α} (p : α → Bool) {f : Nat} {fi cp : List Value} (w : World) (hS : Sl A w v 1 (l.map row)) (hf : memN T.fns f = true)
    (hcl : ∀ x ∈ l, ∀ w', Ex w w' → Ret Tryz.prog f (fi ++ [ev x] ++ cp) w' fun u w'' => u = .bool (p x) ∧ Ex w' w'') :
    Ret Tryz.prog 105 [v, .func (.func f) ⟨fi⟩ ⟨cp⟩] w fun u w' => u = .int .i64 (fidx p l) ∧ Ex w w' := by
  have hm := hS.small
  obtain ⟨a, cap, rfl, hz, hr⟩ := hS.is
  simp only [List.length_map] at *
  unfold maxLen at hm
  refine ret_of Tryz.func105 Tryz.ntmps105 rfl rfl rfl ?_
  (repeat (first | refine lw_pure hT rfl ?_ | refine lw_nil ?_ | refine cw_seq ?_ | refine cw_region ?_ | refine qw_then ?_ | refine cw_block ?_))
  refine cw_loop (fun i : Nat => [(0, .slice a l.length cap), (1, .func (.func f) ⟨fi⟩ ⟨cp⟩), (7, .int .i64 (l.length : Nat)), (8, .int .i64 (i : Nat))]) (fun i w' => Ex w w' ∧ i ≤ l.length ∧ ∀ j (hj : j < l.length), j < i → p l[j] = false) (fun i => l.length - i) 0 (by repeat (first | exact trivial | refine ⟨rfl, ?_⟩)) ⟨Ext.refl _ _, Nat.zero_le _, fun j _ hj => by omega⟩ ?_
  rintro i w' ⟨hx, hi, hb⟩
  (repeat (first | refine lw_pure hT rfl ?_ | refine lw_nil ?_ | refine cw_seq ?_ | refine cw_region ?_ | refine qw_then ?_))
  refine cw_cond rfl (fun h => ?_) (fun h => ?_)
  · have hlt : i < l.length := by simpa using h
    have hne : l.map row ≠ [] := by intro e; simp at e; subst e; simp at hlt
    obtain ⟨b, o, rfl, hA, hrd⟩ := hr hne
    obtain ⟨hlen, hrd⟩ := hrd i (row l[i]) (by simp [hlt])
    (repeat (first | refine lw_pure hT rfl ?_ | refine lw_nil ?_ | refine cw_seq ?_ | refine cw_region ?_ | refine qw_then ?_ | refine cw_skip ?_ | refine cw_block ?_))
    refine lw_index hT rfl rfl rfl i rfl hlt ?_
    skip
    refine lw_load hT rfl rfl (v := ev l[i]) (hx.cell (hrd 0 _ (by rw [hev]; rfl))) ?_
    skip
    refine lw_call_fn hT rfl hf rfl (hcl l[i] (List.getElem_mem hlt) w' hx) ?_
    rintro _ w2 ⟨rfl, hx2⟩
    (repeat (first | refine lw_nil ?_ | refine qw_then ?_))
    refine cw_cond rfl (fun h => ?_) (fun h => ?_)
    · (repeat (first | refine lw_pure hT rfl ?_ | refine lw_nil ?_ | refine cw_seq ?_ | refine cw_region ?_ | refine qw_then ?_ | refine cw_ret ?_ | refine qw_then_ret ?_ | refine qw_block_ret ?_))
      exact qw_ret rfl ⟨by rw [fidx_at hlt h fun j hj => hb j (by omega) hj]; rfl, hx.trans hx2⟩
    · (repeat (first | (refine lw_add rfl rfl ?_ ?_ ?_; iterate 2 omega) | refine lw_pure hT rfl ?_ | refine lw_nil ?_ | refine cw_region ?_ | refine qw_then ?_ | refine cw_skip ?_ | refine qw_block ?_))
      refine qw_round (i + 1) (by repeat (first | exact trivial | refine ⟨rfl, ?_⟩)) ⟨hx.trans hx2, hlt, fun j hj hji => ?_⟩ (by omega)
      by_cases e : j = i
      · subst e; exact h
      · exact hb j hj (by omega)
  · have : i = l.length := by simp at h; omega
    subst this
    (repeat (first | refine lw_pure hT rfl ?_ | refine lw_nil ?_ | refine cw_seq ?_ | refine cw_region ?_ | refine qw_then ?_ | refine cw_ret ?_ | refine cw_exit ?_ | refine qw_block_exit ?_ | refine qw_then_exit ?_))
    exact qw_ret rfl ⟨by rw [fidx_none fun j hj => hb j hj hj]; rfl, hx⟩
theorem cnf_ptr {α : Type} (row : α → List Value) (ev : α → Value) (hev : ∀ x, row x = [ev x]) {A : Nat → Prop} {v : Value} {l : List α} (p : α → Bool) {f : Nat} {fi cp : List Value} (w : World) (hS : Sl A w v 1 (l.map row)) (hf : memN T.fns f = true)
    (hcl : ∀ x ∈ l, ∀ w', Ex w w' → Ret Tryz.prog f (fi ++ [ev x] ++ cp) w' fun u w'' => u = .bool (p x) ∧ Ex w' w'') :
    Ret Tryz.prog 84 [v, .func (.func f) ⟨fi⟩ ⟨cp⟩] w fun u w' => u = .bool (l.any p) ∧ Ex w w' := by
  refine ret_of Tryz.func84 Tryz.ntmps84 rfl rfl rfl ?_
  (repeat (first | refine lw_pure hT rfl ?_ | refine lw_nil ?_ | refine cw_seq ?_ | refine cw_region ?_ | refine qw_then ?_))
  refine lw_call hT rfl rfl (idxf_ptr row ev hev p w hS hf hcl) ?_
  rintro _ w' ⟨rfl, hx⟩
  (repeat (first | refine lw_pure hT rfl ?_ | refine lw_nil ?_ | refine qw_then ?_ | refine cw_ret ?_))
  exact qw_ret rfl ⟨by rw [fidx_ge]; rfl, hx⟩

theorem idxf_pap {α : Type} (row : α → List Value) (ev : α → Value) (hev : ∀ x, ev x = .agg ⟨row x⟩) {A : Nat → Prop} {v : Value} {l : List α} (p : α → Bool) {f : Nat} {fi cp : List Value} (w : World) (hS : Sl A w v 3 (l.map row)) (hf : memN T.fns f = true)
    (hcl : ∀ x ∈ l, ∀ w', Ex w w' → Ret Tryz.prog f (fi ++ [ev x] ++ cp) w' fun u w'' => u = .bool (p x) ∧ Ex w' w'') :
    Ret Tryz.prog 81 [v, .func (.func f) ⟨fi⟩ ⟨cp⟩] w fun u w' => u = .int .i64 (fidx p l) ∧ Ex w w' := by
  have hm := hS.small
  obtain ⟨a, cap, rfl, hz, hr⟩ := hS.is
  simp only [List.length_map] at *
  unfold maxLen at hm
  refine ret_of Tryz.func81 Tryz.ntmps81 rfl rfl rfl ?_
  (repeat (first | refine lw_pure hT rfl ?_ | refine lw_nil ?_ | refine cw_seq ?_ | refine cw_region ?_ | refine qw_then ?_ | refine cw_block ?_))
  refine cw_loop (fun i : Nat => [(0, .slice a l.length cap), (1, .func (.func f) ⟨fi⟩ ⟨cp⟩), (7, .int .i64 (l.length : Nat)), (8, .int .i64 (i : Nat))]) (fun i w' => Ex w w' ∧ i ≤ l.length ∧ ∀ j (hj : j < l.length), j < i → p l[j] = false) (fun i => l.length - i) 0 (by repeat (first | exact trivial | refine ⟨rfl, ?_⟩)) ⟨Ext.refl _ _, Nat.zero_le _, fun j _ hj => by omega⟩ ?_
  rintro i w' ⟨hx, hi, hb⟩
  (repeat (first | refine lw_pure hT rfl ?_ | refine lw_nil ?_ | refine cw_seq ?_ | refine cw_region ?_ | refine qw_then ?_))
  refine cw_cond rfl (fun h => ?_) (fun h => ?_)
  · have hlt : i < l.length := by simpa using h
    have hne : l.map row ≠ [] := by intro e; simp at e; subst e; simp at hlt
    obtain ⟨b, o, rfl, hA, hrd⟩ := hr hne
    obtain ⟨hlen, hrd⟩ := hrd i (row l[i]) (by simp [hlt])
    (repeat (first | refine lw_pure hT rfl ?_ | refine lw_nil ?_ | refine cw_seq ?_ | refine cw_region ?_ | refine qw_then ?_ | refine cw_skip ?_ | refine cw_block ?_))
    refine lw_index hT rfl rfl rfl i rfl hlt ?_
    skip
    refine lw_load_agg hT rfl rfl (vs := row l[i]) (by rw [hlen]; rfl) (hrd.ex hx) ?_
    rw [← hev]
    skip
    refine lw_call_fn hT rfl hf rfl (hcl l[i] (List.getElem_mem hlt) w' hx) ?_
    rintro _ w2 ⟨rfl, hx2⟩
    (repeat (first | refine lw_nil ?_ | refine qw_then ?_))
    refine cw_cond rfl (fun h => ?_) (fun h => ?_)
    · (repeat (first | refine lw_pure hT rfl ?_ | refine lw_nil ?_ | refine cw_seq ?_ | refine cw_region ?_ | refine qw_then ?_ | refine cw_ret ?_ | refine qw_then_ret ?_ | refine qw_block_ret ?_))
      exact qw_ret rfl ⟨by rw [fidx_at hlt h fun j hj => hb j (by omega) hj]; rfl, hx.trans hx2⟩
    · (repeat (first | (refine lw_add rfl rfl ?_ ?_ ?_; iterate 2 omega) | refine lw_pure hT rfl ?_ | refine lw_nil ?_ | refine cw_region ?_ | refine qw_then ?_ | refine cw_skip ?_ | refine qw_block ?_))
      refine qw_round (i + 1) (by repeat (first | exact trivial | refine ⟨rfl, ?_⟩)) ⟨hx.trans hx2, hlt, fun j hj hji => ?_⟩ (by omega)
      by_cases e : j = i
      · subst e; exact h
      · exact hb j hj (by omega)
  · have : i = l.length := by simp at h; omega
    subst this
    (repeat (first | refine lw_pure hT rfl ?_ | refine lw_nil ?_ | refine cw_seq ?_ | refine cw_region ?_ | refine qw_then ?_ | refine cw_ret ?_ | refine cw_exit ?_ | refine qw_block_exit ?_ | refine qw_then_exit ?_))
    exact qw_ret rfl ⟨by rw [fidx_none fun j hj => hb j hj hj]; rfl, hx⟩
theorem cnf_pap {α : Type} (row : α → List Value) (ev : α → Value) (hev : ∀ x, ev x = .agg ⟨row x⟩) {A : Nat → Prop} {v : Value} {l : List α} (p : α → Bool) {f : Nat} {fi cp : List Value} (w : World) (hS : Sl A w v 3 (l.map row)) (hf : memN T.fns f = true)
    (hcl : ∀ x ∈ l, ∀ w', Ex w w' → Ret Tryz.prog f (fi ++ [ev x] ++ cp) w' fun u w'' => u = .bool (p x) ∧ Ex w' w'') :
    Ret Tryz.prog 54 [v, .func (.func f) ⟨fi⟩ ⟨cp⟩] w fun u w' => u = .bool (l.any p) ∧ Ex w w' := by
  refine ret_of Tryz.func54 Tryz.ntmps54 rfl rfl rfl ?_
  (repeat (first | refine lw_pure hT rfl ?_ | refine lw_nil ?_ | refine cw_seq ?_ | refine cw_region ?_ | refine qw_then ?_))
  refine lw_call hT rfl rfl (idxf_pap row ev hev p w hS hf hcl) ?_
  rintro _ w' ⟨rfl, hx⟩
  (repeat (first | refine lw_pure hT rfl ?_ | refine lw_nil ?_ | refine qw_then ?_ | refine cw_ret ?_))
  exact qw_ret rfl ⟨by rw [fidx_ge]; rfl, hx⟩

/-! ### Index, Contains of strings; copies -/
theorem idx_str {A : Nat → Prop} {v : Value} {l : List ByteArray} (x : ByteArray) (w : World) (hS : SlS A w v l) :
    Ret Tryz.prog 64 [v, .string x] w fun u w' => u = .int .i64 (fidx (fun s => decide (x = s)) l) ∧ w = w' := by
  have hm := hS.small
  obtain ⟨a, cap, rfl, hz, hr⟩ := hS.is
  simp only [List.length_map] at *
  unfold maxLen at hm
  refine ret_of Tryz.func64 Tryz.ntmps64 rfl rfl rfl ?_
  (repeat (first | refine lw_pure hT rfl ?_ | refine lw_nil ?_ | refine cw_seq ?_ | refine cw_region ?_ | refine qw_then ?_ | refine cw_block ?_))
  refine cw_loop (fun i : Nat => [(0, .slice a l.length cap), (1, .string x), (7, .int .i64 (l.length : Nat)), (8, .int .i64 (i : Nat))]) (fun i w' => w = w' ∧ i ≤ l.length ∧ ∀ j (hj : j < l.length), j < i → decide (x = l[j]) = false) (fun i => l.length - i) 0 (by repeat (first | exact trivial | refine ⟨rfl, ?_⟩)) ⟨rfl, Nat.zero_le _, fun j _ hj => by omega⟩ ?_
  rintro i _ ⟨rfl, hi, hb⟩
  (repeat (first | refine lw_pure hT rfl ?_ | refine lw_nil ?_ | refine cw_seq ?_ | refine cw_region ?_ | refine qw_then ?_))
  refine cw_cond rfl (fun h => ?_) (fun h => ?_)
  · have hlt : i < l.length := by simpa using h
    have hne : l.map (fun s => [Value.string s]) ≠ [] := by intro e; simp at e; subst e; simp at hlt
    obtain ⟨b, o, rfl, hA, hrd⟩ := hr hne
    obtain ⟨hlen, hrd⟩ := hrd i [.string l[i]] (by simp [hlt])
    (repeat (first | refine lw_pure hT rfl ?_ | refine lw_nil ?_ | refine cw_seq ?_ | refine cw_region ?_ | refine qw_then ?_ | refine cw_skip ?_ | refine cw_block ?_))
    refine lw_index hT rfl rfl rfl i rfl hlt ?_
    skip
    refine lw_load hT rfl rfl (v := .string l[i]) (hrd 0 _ rfl) ?_
    (repeat (first | refine lw_pure hT rfl ?_ | refine lw_nil ?_ | refine qw_then ?_))
    refine cw_cond rfl (fun h => ?_) (fun h => ?_)
    · (repeat (first | refine lw_pure hT rfl ?_ | refine lw_nil ?_ | refine cw_seq ?_ | refine cw_region ?_ | refine qw_then ?_ | refine cw_ret ?_ | refine qw_then_ret ?_ | refine qw_block_ret ?_))
      exact qw_ret rfl ⟨by rw [fidx_at hlt (by simpa [eq_comm] using h) fun j hj => hb j (by omega) hj]; rfl, rfl⟩
    · (repeat (first | (refine lw_add rfl rfl ?_ ?_ ?_; iterate 2 omega) | refine lw_pure hT rfl ?_ | refine lw_nil ?_ | refine cw_region ?_ | refine qw_then ?_ | refine cw_skip ?_ | refine qw_block ?_))
      refine qw_round (i + 1) (by repeat (first | exact trivial | refine ⟨rfl, ?_⟩)) ⟨rfl, hlt, fun j hj hji => ?_⟩ (by omega)
      by_cases e : j = i
      · subst e; simpa [eq_comm] using h
      · exact hb j hj (by omega)
  · have : i = l.length := by simp at h; omega
    subst this
    (repeat (first | refine lw_pure hT rfl ?_ | refine lw_nil ?_ | refine cw_seq ?_ | refine cw_region ?_ | refine qw_then ?_ | refine cw_ret ?_ | refine cw_exit ?_ | refine qw_block_exit ?_ | refine qw_then_exit ?_))
    exact qw_ret rfl ⟨by rw [fidx_none fun j hj => hb j hj hj]; rfl, rfl⟩
theorem cnt_str {A : Nat → Prop} {v : Value} {l : List ByteArray} (x : ByteArray) (w : World) (hS : SlS A w v l) :
    Ret Tryz.prog 38 [v, .string x] w fun u w' => u = .bool (l.any fun s => decide (x = s)) ∧ w = w' := by
  refine ret_of Tryz.func38 Tryz.ntmps38 rfl rfl rfl ?_
  (repeat (first | refine lw_pure hT rfl ?_ | refine lw_nil ?_ | refine cw_seq ?_ | refine cw_region ?_ | refine qw_then ?_))
  refine lw_call hT rfl rfl (idx_str x w hS) ?_
  rintro _ w' ⟨rfl, rfl⟩
  (repeat (first | refine lw_pure hT rfl ?_ | refine lw_nil ?_ | refine qw_then ?_ | refine cw_ret ?_))
  exact qw_ret rfl ⟨by rw [fidx_ge]; rfl, rfl⟩

/-- What is told of a copy: nil of nil, else a row of its own. -/
theorem clone_str {A : Nat → Prop} {v : Value} {l : List ByteArray} (w : World) (hS : SlS A w v l) (hb : l.length ≤ 1000000) :
    Ret Tryz.prog 60 [v] w fun u w' => w'.ownsRow w.heap.size 9 1 u l.length (l.map Value.string) ∧ Ex w w' := by
  have hS' := hS
  obtain ⟨a, cap, rfl, hz, hr⟩ := hS.is
  simp only [List.length_map] at *
  refine ret_of Tryz.func60 Tryz.ntmps60 rfl rfl rfl ?_
  cases a with
  | none =>
    have h0 : l = [] := by
      by_cases h : l = []
      · exact h
      · obtain ⟨b, o, ha, _⟩ := hr (by simpa using h); cases ha
    subst h0
    (repeat (first | refine lw_pure hT rfl ?_ | refine lw_nil ?_ | refine cw_seq ?_ | refine cw_region ?_ | refine qw_then ?_ | refine cw_ret ?_ | refine qw_then_ret ?_ | (refine cw_cond_t rfl ?_ ?_; focus (first | with_reducible rfl | with_reducible exact Bool.not_false | with_reducible exact Bool.not_true)) | refine lw_eqs_none hT rfl rfl ?_))
    exact qw_ret rfl ⟨World.ownsRow_nil _ _ _ _, Ext.refl _ _⟩
  | some ad =>
    (repeat (first | refine lw_pure hT rfl ?_ | refine lw_nil ?_ | refine cw_seq ?_ | refine cw_region ?_ | refine qw_then ?_ | refine cw_skip ?_ | (refine cw_cond_f rfl ?_ ?_; focus (first | with_reducible rfl | with_reducible exact Bool.not_false | with_reducible exact Bool.not_true)) | refine lw_eqs_some hT rfl rfl ?_))
    refine lw_buildSlice sl32 rfl rfl rfl ?_
    rintro b w1 rfl hb1 hx1 hs1
    (repeat (refine lw_pure hT rfl ?_))
    have hown : w1.ownsRow w.heap.size 9 1 (.slice (some ⟨w.heap.size, 0, none⟩) 0 0) 0 [] := own_lit hb1 (Nat.le_refl _) rfl (by decide)
    refine lw_append_sl sl32 (by decide) rfl hown rfl (hS'.ex hx1) (by simp [Value.oneCell']) (by simp [maxLen]; omega) (by simp; omega) (by omega) ?_
    intro v' w2 g1 g2 g3 g4
    (repeat (first | refine lw_pure hT rfl ?_ | refine lw_nil ?_ | refine qw_then ?_ | refine cw_ret ?_))
    refine qw_ret rfl ⟨?_, ?_⟩
    · have e : (l.map fun s => [Value.string s]).flatten = l.map Value.string := by
        clear g1 hS hS' hr hb hown
        induction l with
        | nil => rfl
        | cons a l ih => simp [ih]
      rw [e] at g1
      simpa [oneOr] using g1
    · exact hx1.trans' g2 (fun _ _ f => f.elim) (fun i hi g => by simp [Value.ownBlock] at g; omega)
end Go.Proofs.YtfbjpfgglgffgaaGreat
