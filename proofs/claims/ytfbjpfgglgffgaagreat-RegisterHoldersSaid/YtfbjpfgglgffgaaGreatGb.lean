/- Acts that are read; contracts of supercargoref23.Few, supercargolaw23.right, supercargoref03.Same. -/
import Derived.Test.YtfbjpfgglgffgaaGreatGa
set_option linter.unusedVariables false
set_option linter.unusedSimpArgs false
set_option linter.unusedSectionVars false
set_option linter.unnecessarySimpa false
namespace Go.Proofs.YtfbjpfgglgffgaaGreat
open Go Go.SK

structure ActD.Ok (a : ActD) : Prop where
  bill : a.bill.size ≤ maxLen
  by_ : a.by_.size ≤ maxLen
  to_ : a.to_.size ≤ maxLen
  b : a.b.Ok
/-- An act's cells, its two slices given. -/
structure ActAt (A : Nat → Prop) (w : World) (a : ActD) (vb vp : Value) : Prop where
  boxes : SlS A w vb a.b.boxes
  parents : SlS A w vp a.b.parents
  cap : ∀ p n c, vb = .slice p n c → n ≤ c
  ok : a.Ok
theorem ActAt.ext {A F : Nat → Prop} {w w' : World} {a : ActD} {vb vp : Value} (h : ActAt A w a vb vp) (hx : Ext F w w') (hn : ∀ b, A b → ¬ F b) : ActAt A w' a vb vp := ⟨h.boxes.ext hx hn, h.parents.ext hx hn, h.cap, h.ok⟩
theorem ActAt.ex {A : Nat → Prop} {w w' : World} {a : ActD} {vb vp : Value} (h : ActAt A w a vb vp) (hx : Ex w w') : ActAt A w' a vb vp := h.ext hx fun _ _ f => f
/-- A slice of acts that is read. -/
structure ActsAt (A : Nat → Prop) (w : World) (v : Value) (l : List ActD) : Prop where
  is : ∃ p cap, v = .slice p l.length cap ∧ l.length ≤ maxLen ∧ (∀ i (hi : i < l.length), ∃ b o vb vp, p = some ⟨b, o, none⟩ ∧ A b ∧ Rd w b (o + i * 15) (encAct l[i] vb vp) ∧ ActAt A w l[i] vb vp)
theorem ActsAt.ext {A F : Nat → Prop} {w w' : World} {v : Value} {l : List ActD} (h : ActsAt A w v l) (hx : Ext F w w') (hn : ∀ b, A b → ¬ F b) : ActsAt A w' v l := by
  obtain ⟨p, cap, h1, h2, h3⟩ := h.is
  refine ⟨p, cap, h1, h2, fun i hi => ?_⟩
  obtain ⟨b, o, vb, vp, h4, h5, h6, h7⟩ := h3 i hi
  exact ⟨b, o, vb, vp, h4, h5, h6.ext hx (hn b h5), h7.ext hx hn⟩
theorem ActsAt.ex {A : Nat → Prop} {w w' : World} {v : Value} {l : List ActD} (h : ActsAt A w v l) (hx : Ex w w') : ActsAt A w' v l := h.ext hx fun _ _ f => f

theorem encAct_one {A : Nat → Prop} {w : World} {a : ActD} {vb vp : Value} (h : ActAt A w a vb vp) : ∀ u ∈ encAct a vb vp, u.oneCell' = true := by
  intro u hu
  simp [encAct, encB] at hu
  rcases hu with rfl | rfl | rfl | rfl | rfl | rfl | rfl | rfl | rfl | rfl | rfl | rfl | rfl | rfl | rfl <;> first | rfl | exact Sl.one h.boxes | exact Sl.one h.parents

/-- What 'Few' promises. -/
def FewP (l : List ActD) : Prop := l.length ≤ 41 ∧ ∀ a ∈ l, a.b.boxes.length ≤ 70 ∧ a.b.parents.length ≤ 70
set_option maxHeartbeats 2000000 in
theorem r23_Few {A : Nat → Prop} {w : World} {v : Value} {l : List ActD} (hA : ActsAt A w v l) : Ret Tryz.prog 34 [v] w fun u w' => (∃ b, u = .bool b ∧ (b = true → FewP l)) ∧ Ex w w' := by
  obtain ⟨p, cap, rfl, hm, hr⟩ := hA.is
  unfold maxLen at hm
  refine ret_of Tryz.func34 Tryz.ntmps34 rfl rfl rfl ?_
  (repeat (first | refine lw_pure hT rfl ?_ | refine lw_nil ?_ | refine cw_seq ?_ | refine cw_region ?_ | refine qw_then ?_ | refine cw_block ?_))
  refine cw_loop (fun i : Nat => [(0, .slice p l.length cap), (3, .int .i64 (i : Nat))]) (fun i w' => Ex w w' ∧ i ≤ l.length ∧ i ≤ 41 ∧ ∀ j (hj : j < l.length), j < i → l[j].b.boxes.length ≤ 70 ∧ l[j].b.parents.length ≤ 70) (fun i => l.length - i) 0 (by repeat (first | exact trivial | refine ⟨rfl, ?_⟩)) ⟨Ext.refl _ _, Nat.zero_le _, Nat.zero_le _, fun j _ hj => by omega⟩ ?_
  rintro i w1 ⟨hx1, hi, hi41, hb⟩
  have no : ∀ w', Ex w1 w' → (∃ b, Value.bool false = .bool b ∧ (b = true → FewP l)) ∧ Ex w w' := fun w' h => ⟨⟨false, rfl, fun h => by cases h⟩, hx1.trans h⟩
  (repeat (first | refine lw_pure hT rfl ?_ | refine lw_nil ?_ | refine cw_seq ?_ | refine cw_region ?_ | refine qw_then ?_))
  refine cw_cond rfl (fun h => ?_) (fun h => ?_)
  · have hlt : i < l.length := by simp at h; omega
    obtain ⟨b, o, vb, vp, rfl, _, hrd, hat⟩ := hr i hlt
    generalize ha : l[i] = a at hrd hat
    have hat1 := hat.ex hx1
    obtain ⟨pb, cb, rfl, _, _⟩ := hat1.boxes.is
    obtain ⟨pp, cp, rfl, _, _⟩ := hat1.parents.is
    have hone := encAct_one hat1
    simp only [List.length_map] at *
    have s1 := hat.ok.bill
    have s2 := hat.ok.by_
    have s3 := hat.ok.to_
    have s4 := hat.ok.b.number
    have s5 := hat.ok.b.shipper
    have s6 := hat.ok.b.frm
    have s7 := hat.ok.b.to_
    unfold maxLen at s1 s2 s3 s4 s5 s6 s7
    (repeat (first | refine lw_pure hT rfl ?_ | refine cw_seq ?_ | refine cw_region ?_ | refine qw_then ?_ | refine cw_skip ?_ | refine cw_block ?_))
    refine lw_index hT rfl rfl rfl i rfl hlt ?_
    skip
    refine lw_load_agg hT rfl rfl rfl (hrd.ex hx1) ?_
    skip
    refine lw_alloc z44 ?_
    intro b4 w2 hbb4 hb4 hx2 hs2
    skip
    refine lw_store_agg hT rfl rfl rfl rfl hone hb4 (show (15 : Nat) ≤ 15 by decide) ?_
    intro w3 hb3 hx3 hs3
    replace hb3 : Blk w3 b4 (encAct a (.slice pb a.b.boxes.length cb) (.slice pp a.b.parents.length cp)) 44 := hb3
    have hx13 : Ex w1 w3 := hx2.up_new hx3 (fun i h => by omega)
    (repeat (first | refine lw_pure hT rfl ?_ | refine lw_nil ?_ | refine cw_seq ?_ | refine cw_region ?_ | refine qw_then ?_))
    refine lw_guard rfl (fun h1 => ?_) (fun h1 => ?_)
    · (repeat (first | refine lw_pure hT rfl ?_ | refine lw_nil ?_ | refine cw_seq ?_ | refine cw_region ?_ | refine qw_then ?_ | refine cw_ret ?_ | refine qw_then_ret ?_ | (refine lw_goff_t rfl ?_ ?_; focus (first | with_reducible rfl | with_reducible exact Bool.not_false | with_reducible exact Bool.not_true)) | refine qw_block_ret ?_ | (refine cw_cond_t rfl ?_ ?_; focus (first | with_reducible rfl | with_reducible exact Bool.not_false | with_reducible exact Bool.not_true))))
      exact qw_ret rfl (no _ hx13)
    have h1 : i ≤ 40 := by have := of_decide_eq_false h1; omega
    (repeat (first | refine lw_pure hT rfl ?_ | (refine lw_gon_f rfl ?_ ?_; focus (first | with_reducible rfl | with_reducible exact Bool.not_false | with_reducible exact Bool.not_true))))
    refine lw_load hT rfl rfl (v := .string a.bill) (hb3.cell 3) ?_
    (repeat (first | refine lw_pure hT rfl ?_ | (refine lw_gon_f rfl ?_ ?_; focus (first | with_reducible rfl | with_reducible exact Bool.not_false | with_reducible exact Bool.not_true))))
    refine lw_load hT rfl rfl (v := .string a.by_) (hb3.cell 4) ?_
    (repeat (first | refine lw_pure hT rfl ?_ | (refine lw_gon_f rfl ?_ ?_; focus (first | with_reducible rfl | with_reducible exact Bool.not_false | with_reducible exact Bool.not_true))))
    refine lw_load hT rfl rfl (v := .string a.to_) (hb3.cell 5) ?_
    (repeat (first | refine lw_pure hT rfl ?_ | (refine lw_gon_f rfl ?_ ?_; focus (first | with_reducible rfl | with_reducible exact Bool.not_false | with_reducible exact Bool.not_true))))
    refine lw_guard rfl (fun h2 => ?_) (fun h2 => ?_)
    · (repeat (first | refine lw_pure hT rfl ?_ | refine lw_nil ?_ | refine cw_seq ?_ | refine cw_region ?_ | refine qw_then ?_ | refine cw_ret ?_ | refine qw_then_ret ?_ | (refine lw_goff_t rfl ?_ ?_; focus (first | with_reducible rfl | with_reducible exact Bool.not_false | with_reducible exact Bool.not_true)) | refine qw_block_ret ?_ | (refine cw_cond_t rfl ?_ ?_; focus (first | with_reducible rfl | with_reducible exact Bool.not_false | with_reducible exact Bool.not_true))))
      exact qw_ret rfl (no _ hx13)
    (repeat (first | refine lw_pure hT rfl ?_ | (refine lw_gon_f rfl ?_ ?_; focus (first | with_reducible rfl | with_reducible exact Bool.not_false | with_reducible exact Bool.not_true))))
    refine lw_load hT rfl rfl (v := .slice pb a.b.boxes.length cb) (hb3.cell 11) ?_
    (repeat (first | refine lw_pure hT rfl ?_ | (refine lw_gon_f rfl ?_ ?_; focus (first | with_reducible rfl | with_reducible exact Bool.not_false | with_reducible exact Bool.not_true))))
    refine lw_guard rfl (fun h3 => ?_) (fun h3 => ?_)
    · (repeat (first | refine lw_pure hT rfl ?_ | refine lw_nil ?_ | refine cw_seq ?_ | refine cw_region ?_ | refine qw_then ?_ | refine cw_ret ?_ | refine qw_then_ret ?_ | (refine lw_goff_t rfl ?_ ?_; focus (first | with_reducible rfl | with_reducible exact Bool.not_false | with_reducible exact Bool.not_true)) | refine qw_block_ret ?_ | (refine cw_cond_t rfl ?_ ?_; focus (first | with_reducible rfl | with_reducible exact Bool.not_false | with_reducible exact Bool.not_true))))
      exact qw_ret rfl (no _ hx13)
    have h3 : a.b.boxes.length ≤ 70 := by have := of_decide_eq_false h3; omega
    (repeat (first | refine lw_pure hT rfl ?_ | (refine lw_gon_f rfl ?_ ?_; focus (first | with_reducible rfl | with_reducible exact Bool.not_false | with_reducible exact Bool.not_true))))
    refine lw_load hT rfl rfl (v := .slice pp a.b.parents.length cp) (hb3.cell 12) ?_
    (repeat (first | refine lw_pure hT rfl ?_ | (refine lw_gon_f rfl ?_ ?_; focus (first | with_reducible rfl | with_reducible exact Bool.not_false | with_reducible exact Bool.not_true))))
    refine lw_guard rfl (fun h4 => ?_) (fun h4 => ?_)
    · (repeat (first | refine lw_pure hT rfl ?_ | refine lw_nil ?_ | refine cw_seq ?_ | refine cw_region ?_ | refine qw_then ?_ | refine cw_ret ?_ | refine qw_then_ret ?_ | (refine lw_goff_t rfl ?_ ?_; focus (first | with_reducible rfl | with_reducible exact Bool.not_false | with_reducible exact Bool.not_true)) | refine qw_block_ret ?_ | (refine cw_cond_t rfl ?_ ?_; focus (first | with_reducible rfl | with_reducible exact Bool.not_false | with_reducible exact Bool.not_true))))
      exact qw_ret rfl (no _ hx13)
    have h4 : a.b.parents.length ≤ 70 := by have := of_decide_eq_false h4; omega
    (repeat (first | refine lw_pure hT rfl ?_ | (refine lw_gon_f rfl ?_ ?_; focus (first | with_reducible rfl | with_reducible exact Bool.not_false | with_reducible exact Bool.not_true))))
    refine lw_load hT rfl rfl (v := .string a.b.number) (hb3.cell 6) ?_
    (repeat (first | refine lw_pure hT rfl ?_ | (refine lw_gon_f rfl ?_ ?_; focus (first | with_reducible rfl | with_reducible exact Bool.not_false | with_reducible exact Bool.not_true))))
    refine lw_load hT rfl rfl (v := .string a.b.shipper) (hb3.cell 8) ?_
    (repeat (first | refine lw_pure hT rfl ?_ | (refine lw_gon_f rfl ?_ ?_; focus (first | with_reducible rfl | with_reducible exact Bool.not_false | with_reducible exact Bool.not_true))))
    refine lw_load hT rfl rfl (v := .string a.b.frm) (hb3.cell 9) ?_
    (repeat (first | refine lw_pure hT rfl ?_ | (refine lw_gon_f rfl ?_ ?_; focus (first | with_reducible rfl | with_reducible exact Bool.not_false | with_reducible exact Bool.not_true))))
    refine lw_load hT rfl rfl (v := .string a.b.to_) (hb3.cell 10) ?_
    (repeat (first | refine lw_pure hT rfl ?_ | refine lw_nil ?_ | refine qw_then ?_ | (refine lw_gon_f rfl ?_ ?_; focus (first | with_reducible rfl | with_reducible exact Bool.not_false | with_reducible exact Bool.not_true))))
    refine cw_cond rfl (fun h5 => ?_) (fun h5 => ?_)
    · (repeat (first | refine lw_pure hT rfl ?_ | refine lw_nil ?_ | refine cw_seq ?_ | refine cw_region ?_ | refine qw_then ?_ | refine cw_ret ?_ | refine qw_then_ret ?_ | refine qw_block_ret ?_))
      exact qw_ret rfl (no _ hx13)
    (repeat (first | (refine lw_add rfl rfl ?_ ?_ ?_; iterate 2 omega) | refine lw_pure hT rfl ?_ | refine lw_nil ?_ | refine cw_region ?_ | refine qw_then ?_ | refine cw_skip ?_ | refine qw_block ?_))
    refine qw_round (i + 1) (by repeat (first | exact trivial | refine ⟨rfl, ?_⟩)) ⟨hx1.trans hx13, hlt, by omega, fun j hj hji => ?_⟩ (by omega)
    by_cases e : j = i
    · subst e; rw [ha]; exact ⟨h3, h4⟩
    · exact hb j hj (by omega)
  · have : i = l.length := by simp at h; omega
    subst this
    (repeat (first | refine lw_pure hT rfl ?_ | refine lw_nil ?_ | refine cw_seq ?_ | refine cw_region ?_ | refine qw_then ?_ | refine cw_ret ?_ | refine cw_exit ?_ | refine qw_block_exit ?_ | refine qw_then_exit ?_))
    refine qw_ret rfl ⟨⟨true, rfl, fun _ => ⟨hi41, fun a ha => ?_⟩⟩, hx1⟩
    obtain ⟨j, hj, rfl⟩ := List.getElem_of_mem ha
    exact hb j hj hj
/-- What 'right' promises. -/
def RightP (l : List ActD) : Prop := FewP l ∧ ∀ a ∈ l, 0 ≤ a.kind ∧ a.kind ≤ 5
set_option maxHeartbeats 1000000 in
theorem l23_right {A : Nat → Prop} {w : World} {v : Value} {l : List ActD} (hA : ActsAt A w v l) : Ret Tryz.prog 10 [v] w fun u w' => (∃ b, u = .bool b ∧ (b = true → RightP l)) ∧ Ex w w' := by
  have hA0 := hA
  obtain ⟨p, cap, rfl, hm, hr⟩ := hA.is
  unfold maxLen at hm
  refine ret_of Tryz.func10 Tryz.ntmps10 rfl rfl rfl ?_
  (repeat (first | refine lw_pure hT rfl ?_ | refine lw_nil ?_ | refine cw_seq ?_ | refine cw_region ?_ | refine qw_then ?_ | refine cw_block ?_))
  refine cw_loop (fun i : Nat => [(0, .slice p l.length cap), (3, .int .i64 (i : Nat))]) (fun i w' => Ex w w' ∧ i ≤ l.length ∧ ∀ j (hj : j < l.length), j < i → 0 ≤ l[j].kind ∧ l[j].kind ≤ 5) (fun i => l.length - i) 0 (by repeat (first | exact trivial | refine ⟨rfl, ?_⟩)) ⟨Ext.refl _ _, Nat.zero_le _, fun j _ hj => by omega⟩ ?_
  rintro i w1 ⟨hx1, hi, hb⟩
  (repeat (first | refine lw_pure hT rfl ?_ | refine lw_nil ?_ | refine cw_seq ?_ | refine cw_region ?_ | refine qw_then ?_))
  refine cw_cond rfl (fun h => ?_) (fun h => ?_)
  · have hlt : i < l.length := by simp at h; omega
    obtain ⟨b, o, vb, vp, rfl, _, hrd, hat⟩ := hr i hlt
    have hc0 : w1.cell? ⟨b, o + i * 15 + 0, none⟩ = some (.int .i64 l[i].kind) := (hrd.ex hx1) 0 _ rfl
    (repeat (first | refine lw_pure hT rfl ?_ | refine cw_seq ?_ | refine cw_region ?_ | refine qw_then ?_ | refine cw_skip ?_ | refine cw_block ?_))
    refine lw_index hT rfl rfl rfl i rfl hlt ?_
    (repeat (refine lw_pure hT rfl ?_))
    refine lw_load hT rfl rfl hc0 ?_
    (repeat (refine lw_pure hT rfl ?_))
    refine lw_guard rfl (fun h1 => ?_) (fun h1 => ?_)
    · (repeat (first | refine lw_pure hT rfl ?_ | refine lw_nil ?_ | refine cw_seq ?_ | refine cw_region ?_ | refine qw_then ?_ | refine cw_ret ?_ | refine qw_then_ret ?_ | (refine lw_goff_t rfl ?_ ?_; focus (first | with_reducible rfl | with_reducible exact Bool.not_false | with_reducible exact Bool.not_true)) | refine qw_block_ret ?_ | (refine cw_cond_t rfl ?_ ?_; focus (first | with_reducible rfl | with_reducible exact Bool.not_false | with_reducible exact Bool.not_true))))
      exact qw_ret rfl ⟨⟨false, rfl, fun h => by cases h⟩, hx1⟩
    have h1 := of_decide_eq_false h1
    (repeat (first | refine lw_pure hT rfl ?_ | (refine lw_gon_f rfl ?_ ?_; focus (first | with_reducible rfl | with_reducible exact Bool.not_false | with_reducible exact Bool.not_true))))
    refine lw_index hT rfl rfl rfl i rfl hlt ?_
    (repeat (first | refine lw_pure hT rfl ?_ | (refine lw_gon_f rfl ?_ ?_; focus (first | with_reducible rfl | with_reducible exact Bool.not_false | with_reducible exact Bool.not_true))))
    refine lw_load hT rfl rfl hc0 ?_
    (repeat (first | refine lw_pure hT rfl ?_ | refine lw_nil ?_ | refine qw_then ?_ | (refine lw_gon_f rfl ?_ ?_; focus (first | with_reducible rfl | with_reducible exact Bool.not_false | with_reducible exact Bool.not_true))))
    refine cw_cond rfl (fun h2 => ?_) (fun h2 => ?_)
    · (repeat (first | refine lw_pure hT rfl ?_ | refine lw_nil ?_ | refine cw_seq ?_ | refine cw_region ?_ | refine qw_then ?_ | refine cw_ret ?_ | refine qw_then_ret ?_ | refine qw_block_ret ?_))
      exact qw_ret rfl ⟨⟨false, rfl, fun h => by cases h⟩, hx1⟩
    have h2 := of_decide_eq_false h2
    (repeat (first | (refine lw_add rfl rfl ?_ ?_ ?_; iterate 2 omega) | refine lw_pure hT rfl ?_ | refine lw_nil ?_ | refine cw_region ?_ | refine qw_then ?_ | refine cw_skip ?_ | refine qw_block ?_))
    refine qw_round (i + 1) (by repeat (first | exact trivial | refine ⟨rfl, ?_⟩)) ⟨hx1, hlt, fun j hj hji => ?_⟩ (by omega)
    by_cases e : j = i
    · subst e; omega
    · exact hb j hj (by omega)
  · have : i = l.length := by simp at h; omega
    subst this
    (repeat (first | refine lw_pure hT rfl ?_ | refine cw_seq ?_ | refine cw_region ?_ | refine qw_then ?_ | refine cw_exit ?_ | refine qw_block_exit ?_ | refine qw_then_exit ?_))
    refine lw_call hT rfl rfl (r23_Few (hA0.ex hx1)) ?_
    rintro _ w2 ⟨⟨b, rfl, hf⟩, hx2⟩
    (repeat (first | refine lw_pure hT rfl ?_ | refine lw_nil ?_ | refine qw_then ?_ | refine cw_ret ?_))
    refine qw_ret rfl ⟨⟨b, rfl, fun h => ⟨hf h, fun a ha => ?_⟩⟩, hx1.trans hx2⟩
    obtain ⟨j, hj, rfl⟩ := List.getElem_of_mem ha
    exact hb j hj hj
theorem r_Same {A B : Nat → Prop} {va vb : Value} {la lb : List ByteArray} (w : World) (hA : SlS A w va la) (hB : SlS B w vb lb) : Ret Tryz.prog 44 [va, vb] w fun u w' => u = .bool (decide (la = lb)) ∧ Ex w w' := by
  have hma := hA.small
  have hmb := hB.small
  obtain ⟨a, ca, rfl, _, hra⟩ := hA.is
  obtain ⟨b, cb, rfl, _, hrb⟩ := hB.is
  simp only [List.length_map] at *
  unfold maxLen at hma hmb
  refine ret_of Tryz.func44 Tryz.ntmps44 rfl rfl rfl ?_
  (repeat (first | refine lw_pure hT rfl ?_ | refine lw_nil ?_ | refine cw_seq ?_ | refine cw_region ?_ | refine qw_then ?_))
  refine cw_cond rfl (fun h => ?_) (fun h => ?_)
  · have hne : la ≠ lb := by rintro rfl; simp at h
    (repeat (first | refine lw_pure hT rfl ?_ | refine lw_nil ?_ | refine cw_seq ?_ | refine cw_region ?_ | refine qw_then ?_ | refine cw_ret ?_ | refine qw_then_ret ?_))
    exact qw_ret rfl ⟨by rw [decide_eq_false hne]; rfl, Ext.refl _ _⟩
  have hl : la.length = lb.length := by have := of_decide_eq_false h; omega
  (repeat (first | refine lw_pure hT rfl ?_ | refine lw_nil ?_ | refine cw_seq ?_ | refine cw_region ?_ | refine qw_then ?_ | refine cw_skip ?_ | refine cw_block ?_))
  refine cw_loop (fun i : Nat => [(0, .slice a la.length ca), (1, .slice b lb.length cb), (5, .int .i64 (i : Nat))]) (fun i w' => Ex w w' ∧ i ≤ la.length ∧ ∀ j (h1 : j < la.length) (h2 : j < lb.length), j < i → la[j] = lb[j]) (fun i => la.length - i) 0 (by repeat (first | exact trivial | refine ⟨rfl, ?_⟩)) ⟨Ext.refl _ _, Nat.zero_le _, fun j _ _ hj => by omega⟩ ?_
  rintro i w1 ⟨hx1, hi, he⟩
  (repeat (first | refine lw_pure hT rfl ?_ | refine lw_nil ?_ | refine cw_seq ?_ | refine cw_region ?_ | refine qw_then ?_))
  refine cw_cond rfl (fun h => ?_) (fun h => ?_)
  · have hlt : i < la.length := by simp at h; omega
    have hlt' : i < lb.length := by omega
    have hnea : la.map (fun s => [Value.string s]) ≠ [] := by intro e; simp at e; subst e; simp at hlt
    have hneb : lb.map (fun s => [Value.string s]) ≠ [] := by intro e; simp at e; subst e; simp at hlt'
    obtain ⟨ba, oa, rfl, _, hrda⟩ := hra hnea
    obtain ⟨bb, ob, rfl, _, hrdb⟩ := hrb hneb
    have ra := (hrda i [.string la[i]] (by simp [hlt])).2.ex hx1
    have rb := (hrdb i [.string lb[i]] (by simp [hlt'])).2.ex hx1
    (repeat (first | refine cw_seq ?_ | refine qw_then ?_ | refine cw_skip ?_ | refine cw_block ?_))
    refine cw_draw hM (fun w' => Ex w1 w') [] rfl rfl (by repeat (first | with_reducible refine nop_then ?_ | with_reducible refine nop_block ?_ | with_reducible exact nop_body)) (fun w2 hx2 _ => ⟨hx2, ?_⟩)
    (refine rw_takeP 0 rfl rfl (by kernel_rfl) (by kernel_rfl) (by kernel_rfl) (by kernel_rfl) rfl (yo_pure hT rfl) ?_; refine rw_takeP 1 rfl rfl (by kernel_rfl) (by kernel_rfl) (by kernel_rfl) (by kernel_rfl) rfl (yo_pure hT rfl) ?_)
    refine rw_takeP 2 rfl rfl (by kernel_rfl) (by kernel_rfl) (by kernel_rfl) (by kernel_rfl) rfl (yo_index hT rfl rfl rfl i rfl hlt) ?_
    refine rw_take 3 rfl rfl (by kernel_rfl) (by kernel_rfl) (by kernel_rfl) (by kernel_rfl) rfl (yo_load hT rfl rfl (v := .string la[i]) (fun w' hS => Ex.cell hS (ra 0 _ rfl))) ?_
    (refine rw_takeP 4 rfl rfl (by kernel_rfl) (by kernel_rfl) (by kernel_rfl) (by kernel_rfl) rfl (yo_pure hT rfl) ?_; refine rw_takeP 5 rfl rfl (by kernel_rfl) (by kernel_rfl) (by kernel_rfl) (by kernel_rfl) rfl (yo_pure hT rfl) ?_)
    refine rw_takeP 6 rfl rfl (by kernel_rfl) (by kernel_rfl) (by kernel_rfl) (by kernel_rfl) rfl (yo_index hT rfl rfl rfl i rfl hlt') ?_
    refine rw_take 7 rfl rfl (by kernel_rfl) (by kernel_rfl) (by kernel_rfl) (by kernel_rfl) rfl (yo_load hT rfl rfl (v := .string lb[i]) (fun w' hS => Ex.cell hS (rb 0 _ rfl))) ?_
    (refine rw_takeP 8 rfl rfl (by kernel_rfl) (by kernel_rfl) (by kernel_rfl) (by kernel_rfl) rfl (yo_pure hT rfl) ?_)
    refine rw_done (by kernel_rfl) ?_
    (repeat (refine qw_then ?_))
    refine cw_cond rfl (fun h' => ?_) (fun h' => ?_)
    · have hne : la ≠ lb := by rintro rfl; simp at h'
      (repeat (first | refine lw_pure hT rfl ?_ | refine lw_nil ?_ | refine cw_seq ?_ | refine cw_region ?_ | refine qw_then ?_ | refine cw_ret ?_ | refine qw_then_ret ?_ | refine qw_block_ret ?_))
      exact qw_ret rfl ⟨by rw [decide_eq_false hne]; rfl, hx1.trans hx2⟩
    · have h' : la[i] = lb[i] := by simpa using h'
      (repeat (first | (refine lw_add rfl rfl ?_ ?_ ?_; iterate 2 omega) | refine lw_pure hT rfl ?_ | refine lw_nil ?_ | refine cw_region ?_ | refine qw_then ?_ | refine cw_skip ?_ | refine qw_block ?_))
      refine qw_round (i + 1) (by repeat (first | exact trivial | refine ⟨rfl, ?_⟩)) ⟨hx1.trans hx2, hlt, fun j h1 h2 hji => ?_⟩ (by omega)
      by_cases e : j = i
      · subst e; exact h'
      · exact he j h1 h2 (by omega)
  · have : i = la.length := by simp at h; omega
    subst this
    (repeat (first | refine lw_pure hT rfl ?_ | refine lw_nil ?_ | refine cw_seq ?_ | refine cw_region ?_ | refine qw_then ?_ | refine cw_ret ?_ | refine cw_exit ?_ | refine qw_block_exit ?_ | refine qw_then_exit ?_))
    have heq : la = lb := List.ext_getElem hl fun j h1 h2 => he j h1 h2 h1
    exact qw_ret rfl ⟨by rw [decide_eq_true heq]; rfl, hx1⟩
end Go.Proofs.YtfbjpfgglgffgaaGreat
