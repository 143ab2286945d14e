/- Contracts of package supercargoref23, third part: which originals are meant, the last day, copies. -/
import Derived.Test.YtfbjpfgglgffgaaGreatFb
set_option linter.unusedVariables false
set_option linter.unusedSimpArgs false
set_option linter.unusedSectionVars false
set_option linter.unnecessarySimpa false
namespace Go.Proofs.YtfbjpfgglgffgaaGreat
open Go Go.SK

def encAct (a : ActD) (vb vp : Value) : List Value := [.int .i64 a.kind, .int .i64 a.index, .int .i64 a.day, .string a.bill, .string a.by_, .string a.to_] ++ encB a.b vb vp
def whichD (a : ActD) : List Int := if a.kind = 5 ∨ (a.kind = 1 ∧ a.index = -1) then [0, 1, 2] else [a.index]
abbrev SlI (A : Nat → Prop) (w : World) (v : Value) (l : List Int) : Prop := Sl A w v 1 (l.map fun i => [Value.int .i64 i])
theorem r23_which (a : ActD) (vb vp : Value) (w : World) : Ret Tryz.prog 75 [.agg ⟨encAct a vb vp⟩] w fun v w' => SlI (fun b => w.heap.size ≤ b ∧ b < w'.heap.size) w' v (whichD a) ∧ Ex w w' := by
  refine ret_of Tryz.func75 Tryz.ntmps75 rfl rfl rfl ?_
  (repeat (first | refine cw_seq ?_ | refine cw_region ?_))
  refine lw_box rfl ?_
  intro b1 w1 hbb hb1 hx1 hs1
  replace hb1 : Blk w1 b1 (encAct a vb vp) 44 := hb1
  have all : (a.kind = 5 ∨ (a.kind = 1 ∧ a.index = -1)) → ∀ {b w'}, w1.heap.size ≤ b → Blk w' b [.int .i64 0, .int .i64 1, .int .i64 2] 3 → SlI (fun b => w.heap.size ≤ b ∧ b < w'.heap.size) w' (.slice (some ⟨b, 0, none⟩) 3 3) (whichD a) := by
    intro h b w' hb hblk
    unfold whichD; rw [if_pos h]
    exact Sl.of_rd (A := fun b => w.heap.size ≤ b ∧ b < w'.heap.size) (o := 0) (rows := [[.int .i64 0], [.int .i64 1], [.int .i64 2]]) ⟨by omega, hblk.lt⟩ (by simp) (hblk.rd 0 3) (by simp [maxLen])
  have one : ¬ (a.kind = 5 ∨ (a.kind = 1 ∧ a.index = -1)) → ∀ {b w'}, w1.heap.size ≤ b → Blk w' b [.int .i64 a.index] 3 → SlI (fun b => w.heap.size ≤ b ∧ b < w'.heap.size) w' (.slice (some ⟨b, 0, none⟩) 1 1) (whichD a) := by
    intro h b w' hb hblk
    unfold whichD; rw [if_neg h]
    exact Sl.of_rd (A := fun b => w.heap.size ≤ b ∧ b < w'.heap.size) (o := 0) (rows := [[.int .i64 a.index]]) ⟨by omega, hblk.lt⟩ (by simp) (hblk.rd 0 1) (by simp [maxLen])
  (repeat (first | refine lw_pure hT rfl ?_ | refine lw_nil ?_ | refine cw_seq ?_ | refine cw_region ?_ | refine qw_then ?_))
  refine lw_load hT rfl rfl (v := .int .i64 a.kind) (hb1.cell 0) ?_
  (repeat (refine lw_pure hT rfl ?_))
  refine lw_guard rfl (fun h1 => ?_) (fun h1 => ?_)
  · have h1 : a.kind = 5 := by simpa using h1
    (repeat (first | refine lw_pure hT rfl ?_ | refine lw_nil ?_ | refine cw_seq ?_ | refine cw_region ?_ | refine qw_then ?_ | refine lw_goff_u rfl ?_ | (refine lw_goff_t rfl ?_ ?_; focus (first | with_reducible rfl | with_reducible exact Bool.not_false | with_reducible exact Bool.not_true)) | (refine cw_cond_t rfl ?_ ?_; focus (first | with_reducible rfl | with_reducible exact Bool.not_false | with_reducible exact Bool.not_true))))
    refine lw_buildSlice sl137 rfl rfl rfl ?_
    intro b w2 hb hblk hx2 hs2
    (repeat (first | refine lw_pure hT rfl ?_ | refine lw_nil ?_ | refine qw_then ?_ | refine cw_ret ?_ | refine qw_then_ret ?_))
    exact qw_ret rfl ⟨all (.inl h1) (by omega) hblk, hx1.trans hx2⟩
  · have h1 : ¬ a.kind = 5 := by simpa using h1
    (repeat (first | refine lw_pure hT rfl ?_ | (refine lw_gon_f rfl ?_ ?_; focus (first | with_reducible rfl | with_reducible exact Bool.not_false | with_reducible exact Bool.not_true))))
    refine lw_load hT rfl rfl (v := .int .i64 a.kind) (hb1.cell 0) ?_
    (repeat (first | refine lw_pure hT rfl ?_ | (refine lw_gon_f rfl ?_ ?_; focus (first | with_reducible rfl | with_reducible exact Bool.not_false | with_reducible exact Bool.not_true))))
    refine lw_guard rfl (fun h2 => ?_) (fun h2 => ?_)
    · have h2 : a.kind = 1 := by simpa using h2
      (repeat (first | refine lw_pure hT rfl ?_ | (refine lw_gon_t rfl ?_ ?_; focus (first | with_reducible rfl | with_reducible exact Bool.not_false | with_reducible exact Bool.not_true))))
      refine lw_load hT rfl rfl (v := .int .i64 a.index) (hb1.cell 1) ?_
      (repeat (first | refine lw_pure hT rfl ?_ | refine lw_nil ?_ | refine qw_then ?_ | (refine lw_gon_t rfl ?_ ?_; focus (first | with_reducible rfl | with_reducible exact Bool.not_false | with_reducible exact Bool.not_true)) | (refine lw_gon_f rfl ?_ ?_; focus (first | with_reducible rfl | with_reducible exact Bool.not_false | with_reducible exact Bool.not_true))))
      refine cw_cond rfl (fun h3 => ?_) (fun h3 => ?_)
      · have h3 : a.index = -1 := by simpa using h3
        (repeat (first | refine cw_seq ?_ | refine cw_region ?_))
        refine lw_buildSlice sl137 rfl rfl rfl ?_
        intro b w2 hb hblk hx2 hs2
        (repeat (first | refine lw_pure hT rfl ?_ | refine lw_nil ?_ | refine qw_then ?_ | refine cw_ret ?_ | refine qw_then_ret ?_))
        exact qw_ret rfl ⟨all (.inr ⟨h2, h3⟩) (by omega) hblk, hx1.trans hx2⟩
      · have h3 : ¬ a.index = -1 := by simpa using h3
        (repeat (first | refine lw_pure hT rfl ?_ | refine cw_seq ?_ | refine cw_region ?_ | refine qw_then ?_ | refine cw_skip ?_))
        refine lw_load hT rfl rfl (v := .int .i64 a.index) (hb1.cell 1) ?_
        skip
        refine lw_buildSlice sl137 rfl rfl rfl ?_
        intro b w2 hb hblk hx2 hs2
        (repeat (first | refine lw_pure hT rfl ?_ | refine lw_nil ?_ | refine qw_then ?_ | refine cw_ret ?_))
        exact qw_ret rfl ⟨one (by simp [h1, h3]) (by omega) hblk, hx1.trans hx2⟩
    · have h2 : ¬ a.kind = 1 := by simpa using h2
      (repeat (first | refine lw_pure hT rfl ?_ | refine lw_nil ?_ | refine cw_seq ?_ | refine cw_region ?_ | refine qw_then ?_ | refine cw_skip ?_ | (refine lw_goff_f rfl ?_ ?_; focus (first | with_reducible rfl | with_reducible exact Bool.not_false | with_reducible exact Bool.not_true)) | (refine lw_gon_f rfl ?_ ?_; focus (first | with_reducible rfl | with_reducible exact Bool.not_false | with_reducible exact Bool.not_true)) | (refine cw_cond_f rfl ?_ ?_; focus (first | with_reducible rfl | with_reducible exact Bool.not_false | with_reducible exact Bool.not_true))))
      refine lw_load hT rfl rfl (v := .int .i64 a.index) (hb1.cell 1) ?_
      skip
      refine lw_buildSlice sl137 rfl rfl rfl ?_
      intro b w2 hb hblk hx2 hs2
      (repeat (first | refine lw_pure hT rfl ?_ | refine lw_nil ?_ | refine qw_then ?_ | refine cw_ret ?_))
      exact qw_ret rfl ⟨one (by simp [h1, h2]) (by omega) hblk, hx1.trans hx2⟩
section
variable {A : Nat → Prop} {w : World}
/-- The papers of an entry: where the k-th stands. -/
theorem FEnt.paper {x : EntD} {g : FG} (h : FEnt A w x g) {k : Nat} (hk : k < 3) : ∃ vc b o cap, g.vP = .slice (some ⟨b, o, none⟩) 3 cap ∧ A b ∧ Rd w b (o + k * 3) [.int .i64 (papAt x k).state, .string (papAt x k).holder, vc] ∧ g.vcs[k]? = some vc ∧ SlE A w vc (papAt x k).chain := by
  have h1 : x.ps[k]? = some (papAt x k) := papAt_get h.three hk
  have hkl : k < g.vcs.length := by rw [h.three']; exact hk
  have h2 : g.vcs[k]? = some g.vcs[k] := List.getElem?_eq_getElem hkl
  have hz : (x.ps.zip g.vcs)[k]? = some (papAt x k, g.vcs[k]) := by rw [List.getElem?_zip_eq_some]; exact ⟨h1, h2⟩
  obtain ⟨b, o, cap, hv, hA, _, _, hrd⟩ := h.papers.at (i := k) (row := papRow (papAt x k, g.vcs[k])) (by rw [List.getElem?_map, hz]; rfl)
  have hl : ((x.ps.zip g.vcs).map papRow).length = 3 := by simp [h.three, h.three']
  rw [hl] at hv
  exact ⟨_, b, o, cap, hv, hA, hrd, h2, h.chains k _ _ h1 h2⟩
theorem r23_until {x : EntD} {g : FG} (hE : FEnt A w x g) {k : Nat} (hk : k < 3) : Ret Tryz.prog 103 [.agg ⟨entF (x, g)⟩, .int .i64 (k : Nat)] w fun v w' => v = .int .i64 (untilD x.bill (papAt x k)) ∧ Ex w w' := by
  obtain ⟨vc, b, o, cap, hv, hA, hrd, hvc, hch⟩ := hE.paper hk
  have hcm := hch.small
  obtain ⟨ca, ccap, rfl, hz, hr⟩ := hch.is
  simp only [List.length_map] at *
  unfold maxLen at hcm
  refine ret_of Tryz.func103 Tryz.ntmps103 rfl rfl rfl ?_
  (repeat (first | refine cw_seq ?_ | refine cw_region ?_))
  refine lw_box rfl ?_
  intro b1 w1 hbb hb1 hx1 hs1
  replace hb1 : Blk w1 b1 (entF (x, g)) 98 := hb1
  have hc : w1.cell? ⟨b1, 10, none⟩ = some (.slice (some ⟨b, o, none⟩) 3 cap) := by rw [hb1.cell, ← hv]; rfl
  have hrd1 := hrd.ex hx1
  (repeat (first | refine lw_pure hT rfl ?_ | refine lw_nil ?_ | refine cw_seq ?_ | refine cw_region ?_ | refine qw_then ?_))
  refine lw_load hT rfl rfl hc ?_
  (repeat (refine lw_pure hT rfl ?_))
  refine lw_index hT rfl rfl rfl k rfl hk ?_
  (repeat (refine lw_pure hT rfl ?_))
  refine lw_load hT rfl rfl (hrd1 2 _ rfl) ?_
  (repeat (first | refine lw_pure hT rfl ?_ | refine lw_nil ?_ | refine cw_seq ?_ | refine cw_region ?_ | refine qw_then ?_))
  refine cw_cond rfl (fun h => ?_) (fun h => ?_)
  · have h0 : 0 < (papAt x k).chain.length := by have := of_decide_eq_true h; omega
    have hne : (papAt x k).chain.map encE ≠ [] := by intro e; simp at e; rw [e] at h0; simp at h0
    obtain ⟨cb, co, rfl, _, hcrd⟩ := hr hne
    have hlt : (papAt x k).chain.length - 1 < (papAt x k).chain.length := by omega
    obtain ⟨_, hcrd⟩ := hcrd ((papAt x k).chain.length - 1) (encE (papAt x k).chain[(papAt x k).chain.length - 1]) (by simp [hlt])
    (repeat (first | refine lw_pure hT rfl ?_ | refine cw_seq ?_ | refine cw_region ?_))
    refine lw_load hT rfl rfl hc ?_
    (repeat (refine lw_pure hT rfl ?_))
    refine lw_index hT rfl rfl rfl k rfl hk ?_
    (repeat (refine lw_pure hT rfl ?_))
    refine lw_load hT rfl rfl (hrd1 2 _ rfl) ?_
    (repeat (first | (refine lw_sub rfl rfl ?_ ?_ ?_; iterate 2 omega) | refine lw_pure hT rfl ?_))
    refine lw_index hT rfl rfl rfl ((papAt x k).chain.length - 1) (by omega) hlt ?_
    (repeat (refine lw_pure hT rfl ?_))
    refine lw_load hT rfl rfl (v := .int .i64 (papAt x k).chain[(papAt x k).chain.length - 1].day) (Ex.cell hx1 (hcrd 3 _ rfl)) ?_
    (repeat (first | refine lw_pure hT rfl ?_ | refine lw_nil ?_ | refine qw_then ?_ | refine cw_ret ?_ | refine qw_then_ret ?_))
    refine qw_ret rfl ⟨?_, hx1⟩
    simp only [untilD, oneOr, List.getLast?_eq_getElem?, List.getElem?_eq_getElem hlt]
  · have h0 : (papAt x k).chain = [] := by have := of_decide_eq_false h; exact List.eq_nil_of_length_eq_zero (by omega)
    (repeat (first | refine lw_pure hT rfl ?_ | refine cw_seq ?_ | refine cw_region ?_ | refine qw_then ?_ | refine cw_skip ?_))
    refine lw_load hT rfl rfl (v := .int .i64 x.bill.issued) (hb1.cell 7) ?_
    (repeat (first | refine lw_pure hT rfl ?_ | refine lw_nil ?_ | refine qw_then ?_ | refine cw_ret ?_))
    refine qw_ret rfl ⟨?_, hx1⟩
    simp only [untilD, oneOr, h0]; rfl
end
theorem r23_Copy {A : Nat → Prop} {b : BillD} {vb vp : Value} (w : World) (hB : SlS A w vb b.boxes) (hP : SlS A w vp b.parents) (h1 : b.boxes.length ≤ 1000000) (h2 : b.parents.length ≤ 1000000) :
    Ret Tryz.prog 101 [.agg ⟨encB b vb vp⟩] w fun v w' => ∃ ub up, v = .agg ⟨encB b ub up⟩ ∧ w'.ownsRow w.heap.size 9 1 ub b.boxes.length (b.boxes.map Value.string) ∧
      w'.ownsRow w.heap.size 9 1 up b.parents.length (b.parents.map Value.string) ∧ Ex w w' := by
  refine ret_of Tryz.func101 Tryz.ntmps101 rfl rfl rfl ?_
  (repeat (first | refine cw_seq ?_ | refine cw_region ?_))
  refine lw_box rfl ?_
  intro bb w1 hbb hb1 hx1 hs1
  replace hb1 : Blk w1 bb (encB b vb vp) 35 := hb1
  skip
  refine lw_alloc z35 ?_
  intro bc w2 hbc hb2 hx2 hs2
  (repeat (first | refine lw_nil ?_ | refine cw_seq ?_ | refine cw_region ?_ | refine qw_then ?_))
  refine lw_buildSlice sl32 rfl rfl rfl ?_
  intro e1 w3 he1 hb3 hx3 hs3
  have hb13 := (hb1.ex hx2).ex hx3
  have hx03 := (hx1.trans hx2).trans hx3
  (repeat (refine lw_pure hT rfl ?_))
  refine lw_load hT rfl rfl (v := vb) (hb13.cell 5) ?_
  skip
  have hown1 : w3.ownsRow w2.heap.size 9 1 (.slice (some ⟨e1, 0, none⟩) 0 0) 0 [] := own_lit hb3 (by omega) rfl (by decide)
  refine lw_append_sl sl32 (by decide) rfl hown1 rfl (hB.ex hx03) (by simp [Value.oneCell']) (by simp [maxLen]; omega) (by simp; omega) (by omega) ?_
  intro ub w4 g1 g2 g3 g4
  have hl4 := g2.size
  rw [flat4] at g1
  simp only [List.length_map, Nat.zero_add, List.nil_append] at g1
  have hb14 := hb13.ext g2 (by simp [Value.ownBlock]; omega)
  (repeat (refine lw_pure hT rfl ?_))
  refine lw_store (size := 1) hT rfl rfl rfl (own_one g1) hb14 (show (5 : Nat) < 9 by decide) ?_
  intro w5 hb5 hx5 hs5
  have hub5 := own_ext g1 hx5 (fun k hk e => by have := own_base g1 hk; omega)
  (repeat (first | refine lw_nil ?_ | refine cw_seq ?_ | refine cw_region ?_ | refine qw_then ?_))
  refine lw_buildSlice sl32 rfl rfl rfl ?_
  intro e2 w6 he2 hb6 hx6 hs6
  have hb56 := hb5.ex hx6
  (repeat (refine lw_pure hT rfl ?_))
  refine lw_load hT rfl rfl (v := vp) (hb56.cell 6) ?_
  skip
  have hx04 : Ex w w4 := hx03.up_new g2 (fun i h => by simp [Value.ownBlock] at h; omega)
  have hx05 : Ex w w5 := hx04.up_new hx5 (fun i h => by omega)
  have hx06 := hx05.trans hx6
  have hown2 : w6.ownsRow w5.heap.size 9 1 (.slice (some ⟨e2, 0, none⟩) 0 0) 0 [] := own_lit hb6 (by omega) rfl (by decide)
  refine lw_append_sl sl32 (by decide) rfl hown2 rfl (hP.ex hx06) (by simp [Value.oneCell']) (by simp [maxLen]; omega) (by simp; omega) (by omega) ?_
  intro up w7 k1 k2 k3 k4
  rw [flat4] at k1
  simp only [List.length_map, Nat.zero_add, List.nil_append] at k1
  have hl5 := hx05.size
  have hb7 := hb56.ext k2 (by simp [Value.ownBlock]; omega)
  have hl7 := k2.size
  (repeat (refine lw_pure hT rfl ?_))
  refine lw_store (size := 1) hT rfl rfl rfl (own_one k1) hb7 (show (6 : Nat) < 9 by decide) ?_
  intro w8 hb8 hx8 hs8
  replace hb8 : Blk w8 bb (encB b ub up) 35 := hb8
  have hx07 : Ex w w7 := hx06.up_new k2 (fun i h => by simp [Value.ownBlock] at h; omega)
  have hx08 : Ex w w8 := hx07.up_new hx8 (fun i h => by omega)
  have hub6 := own_ex hub5 hx6
  have hub7 := own_ext hub6 k2 (fun k hk h => by have := own_base hub5 hk; simp [Value.ownBlock] at h; omega)
  have hub8 := own_ext hub7 hx8 (fun k hk e => by have := own_base g1 hk; omega)
  have hup8 := own_ext k1 hx8 (fun k hk e => by have := own_base k1 hk; omega)
  have hc2 : Blk w8 bc _ 35 := (((((hb2.ex hx3).ext g2 (by simp [Value.ownBlock]; omega)).ext hx5 (by omega)).ex hx6).ext k2 (by simp [Value.ownBlock]; omega)).ext hx8 (by omega)
  (repeat (first | refine lw_nil ?_ | refine cw_seq ?_ | refine cw_region ?_ | refine qw_then ?_))
  refine lw_load_agg hT rfl rfl rfl (vs := encB b ub up) ((hb8.rd 0 9)) ?_
  skip
  refine lw_store_agg hT rfl rfl rfl rfl ?_ hc2 (show (9 : Nat) ≤ 9 by decide) ?_
  · intro v hv
    simp [encB] at hv
    have := own_one g1
    have := own_one k1
    rcases hv with rfl | rfl | rfl | rfl | rfl | rfl | rfl | rfl | rfl <;> first | rfl | assumption
  intro w9 hb9 hx9 hs9
  (repeat (first | refine lw_nil ?_ | refine qw_then ?_ | refine cw_ret ?_))
  refine qw_ret_cell hT rfl rfl rfl rfl (vs := encB b ub up) (hb9.rd 0 9) rfl ⟨ub, up, rfl, ?_, ?_, ?_⟩
  · exact own_mono (own_ext hub8 hx9 (fun k hk e => by have := own_base g1 hk; omega)) (by omega)
  · exact own_mono (own_ext hup8 hx9 (fun k hk e => by have := own_base k1 hk; omega)) (by omega)
  · exact hx08.up_new hx9 (fun i h => by omega)
end Go.Proofs.YtfbjpfgglgffgaaGreat
