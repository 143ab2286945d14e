import Derived.Test.YtnglkhnfmbnfeaaGreatMPs3
set_option linter.unusedVariables false
set_option linter.unusedSimpArgs false
set_option linter.unusedSectionVars false
set_option linter.unnecessarySimpa false
namespace Go.Proofs.YtnglkhnfmbnfeaaGreat
open Go Go.SK
def encAct (a : ActD) (vb vp : Value) : List Value := [.int .i64 a.kind, .int .i64 a.index, .int .i64 a.day, .string a.bill, .string a.by_, .string a.to_] ++ encB a.b vb vp
def whichD (a : ActD) : List Int := if a.kind = 5 ∨ (a.kind = 1 ∧ a.index = -1) then [0, 1, 2] else [a.index]
abbrev SlI (A : Nat → Prop) (w : World) (v : Value) (l : List Int) : Prop := Sl A w v 1 (l.map fun i => [Value.int .i64 i])
theorem r23_which (a : ActD) (vb vp : Value) (w : World) : Ret Tryz.prog 80 [.agg ⟨encAct a vb vp⟩] w fun v w' => SlI (fun b => w.heap.size ≤ b ∧ b < w'.heap.size) w' v (whichD a) ∧ Ex w w' := by
  refine ret_of Tryz.func80 Tryz.ntmps80 rfl rfl rfl ?_
  (repeat (first | refine cw_seq ?_ | refine cw_region ?_))
  refine lw_box rfl ?_
  intro b1 w1 hbb hb1 hx1 hs1
  replace hb1 : Blk w1 b1 (encAct a vb vp) 73 := hb1
  have all : (a.kind = 5 ∨ (a.kind = 1 ∧ a.index = -1)) → ∀ {b w'}, w1.heap.size ≤ b → Blk w' b [.int .i64 0, .int .i64 1, .int .i64 2] 3 → SlI (fun b => w.heap.size ≤ b ∧ b < w'.heap.size) w' (.slice (some ⟨b, 0, none⟩) 3 3) (whichD a) := by
    intro h b w' hb hblk
    unfold whichD; rw [if_pos h]
    exact Sl.of_rd (A := fun b => w.heap.size ≤ b ∧ b < w'.heap.size) (o := 0) (rows := [[.int .i64 0], [.int .i64 1], [.int .i64 2]]) ⟨by omega, hblk.lt⟩ (by simp) (hblk.rd 0 3) (by simp [maxLen])
  have one : ¬ (a.kind = 5 ∨ (a.kind = 1 ∧ a.index = -1)) → ∀ {b w'}, w1.heap.size ≤ b → Blk w' b [.int .i64 a.index] 3 → SlI (fun b => w.heap.size ≤ b ∧ b < w'.heap.size) w' (.slice (some ⟨b, 0, none⟩) 1 1) (whichD a) := by
    intro h b w' hb hblk
    unfold whichD; rw [if_neg h]
    exact Sl.of_rd (A := fun b => w.heap.size ≤ b ∧ b < w'.heap.size) (o := 0) (rows := [[.int .i64 a.index]]) ⟨by omega, hblk.lt⟩ (by simp) (hblk.rd 0 1) (by simp [maxLen])
  (repeat (first | refine lw_pure hT rfl ?_ | refine lw_nil ?_ | refine cw_seq ?_ | refine cw_region ?_ | refine qw_then ?_))
  refine lw_load hT rfl rfl (v := .int .i64 a.kind) (hb1.cell 0) ?_
  (repeat (refine lw_pure hT rfl ?_))
  refine lw_guard rfl (fun h1 => ?_) (fun h1 => ?_)
  · have h1 : a.kind = 5 := by simpa using h1
    (repeat (first | refine lw_pure hT rfl ?_ | refine lw_nil ?_ | refine cw_seq ?_ | refine cw_region ?_ | refine qw_then ?_ | refine lw_goff_u rfl ?_ | (refine lw_goff_t rfl ?_ ?_; focus with_reducible (first | rfl | exact Bool.not_false | exact Bool.not_true)) | (refine cw_cond_t rfl ?_ ?_; focus with_reducible (first | rfl | exact Bool.not_false | exact Bool.not_true))))
    refine lw_buildSlice sl149 rfl rfl rfl ?_
    intro b w2 hb hblk hx2 hs2
    (repeat (first | refine lw_pure hT rfl ?_ | refine lw_nil ?_ | refine qw_then ?_ | refine cw_ret ?_ | refine qw_then_ret ?_))
    exact qw_ret rfl ⟨all (.inl h1) (by omega) hblk, hx1.trans hx2⟩
  · have h1 : ¬ a.kind = 5 := by simpa using h1
    (repeat (first | refine lw_pure hT rfl ?_ | (refine lw_gon_f rfl ?_ ?_; focus with_reducible (first | rfl | exact Bool.not_false | exact Bool.not_true))))
    refine lw_load hT rfl rfl (v := .int .i64 a.kind) (hb1.cell 0) ?_
    (repeat (first | refine lw_pure hT rfl ?_ | (refine lw_gon_f rfl ?_ ?_; focus with_reducible (first | rfl | exact Bool.not_false | exact Bool.not_true))))
    refine lw_guard rfl (fun h2 => ?_) (fun h2 => ?_)
    · have h2 : a.kind = 1 := by simpa using h2
      (repeat (first | refine lw_pure hT rfl ?_ | (refine lw_gon_t rfl ?_ ?_; focus with_reducible (first | rfl | exact Bool.not_false | exact Bool.not_true))))
      refine lw_load hT rfl rfl (v := .int .i64 a.index) (hb1.cell 1) ?_
      (repeat (first | refine lw_pure hT rfl ?_ | refine lw_nil ?_ | refine qw_then ?_ | (refine lw_gon_t rfl ?_ ?_; focus with_reducible (first | rfl | exact Bool.not_false | exact Bool.not_true)) | (refine lw_gon_f rfl ?_ ?_; focus with_reducible (first | rfl | exact Bool.not_false | exact Bool.not_true))))
      refine cw_cond rfl (fun h3 => ?_) (fun h3 => ?_)
      · have h3 : a.index = -1 := by simpa using h3
        (repeat (first | refine cw_seq ?_ | refine cw_region ?_))
        refine lw_buildSlice sl149 rfl rfl rfl ?_
        intro b w2 hb hblk hx2 hs2
        (repeat (first | refine lw_pure hT rfl ?_ | refine lw_nil ?_ | refine qw_then ?_ | refine cw_ret ?_ | refine qw_then_ret ?_))
        exact qw_ret rfl ⟨all (.inr ⟨h2, h3⟩) (by omega) hblk, hx1.trans hx2⟩
      · have h3 : ¬ a.index = -1 := by simpa using h3
        (repeat (first | refine lw_pure hT rfl ?_ | refine cw_seq ?_ | refine cw_region ?_ | refine qw_then ?_ | refine cw_skip ?_))
        refine lw_load hT rfl rfl (v := .int .i64 a.index) (hb1.cell 1) ?_
        skip
        refine lw_buildSlice sl149 rfl rfl rfl ?_
        intro b w2 hb hblk hx2 hs2
        (repeat (first | refine lw_pure hT rfl ?_ | refine lw_nil ?_ | refine qw_then ?_ | refine cw_ret ?_))
        exact qw_ret rfl ⟨one (by simp [h1, h3]) (by omega) hblk, hx1.trans hx2⟩
    · have h2 : ¬ a.kind = 1 := by simpa using h2
      (repeat (first | refine lw_pure hT rfl ?_ | refine lw_nil ?_ | refine cw_seq ?_ | refine cw_region ?_ | refine qw_then ?_ | refine cw_skip ?_ | (refine lw_goff_f rfl ?_ ?_; focus with_reducible (first | rfl | exact Bool.not_false | exact Bool.not_true)) | (refine lw_gon_f rfl ?_ ?_; focus with_reducible (first | rfl | exact Bool.not_false | exact Bool.not_true)) | (refine cw_cond_f rfl ?_ ?_; focus with_reducible (first | rfl | exact Bool.not_false | exact Bool.not_true))))
      refine lw_load hT rfl rfl (v := .int .i64 a.index) (hb1.cell 1) ?_
      skip
      refine lw_buildSlice sl149 rfl rfl rfl ?_
      intro b w2 hb hblk hx2 hs2
      (repeat (first | refine lw_pure hT rfl ?_ | refine lw_nil ?_ | refine qw_then ?_ | refine cw_ret ?_))
      exact qw_ret rfl ⟨one (by simp [h1, h2]) (by omega) hblk, hx1.trans hx2⟩
section
variable {A : Nat → Prop} {w : World}
theorem FEnt.paper {x : EntD} {g : FG} (h : FEnt A w x g) {k : Nat} (hk : k < 3) : ∃ vc b o cap, g.vP = .slice (some ⟨b, o, none⟩) 3 cap ∧ A b ∧ Rd w b (o + k * 3) [.int .i64 (papAt x k).state, .string (papAt x k).holder, vc] ∧ g.vcs[k]? = some vc ∧ SlE A w vc (papAt x k).chain := by
  have h1 : x.ps[k]? = some (papAt x k) := papAt_get h.three hk
  have hkl : k < g.vcs.length := by rw [h.three']; exact hk
  have h2 : g.vcs[k]? = some g.vcs[k] := List.getElem?_eq_getElem hkl
  have hz : (x.ps.zip g.vcs)[k]? = some (papAt x k, g.vcs[k]) := by rw [List.getElem?_zip_eq_some]; exact ⟨h1, h2⟩
  obtain ⟨b, o, cap, hv, hA, _, _, hrd⟩ := h.papers.at (i := k) (row := papRow (papAt x k, g.vcs[k])) (by rw [List.getElem?_map, hz]; rfl)
  have hl : ((x.ps.zip g.vcs).map papRow).length = 3 := by simp [h.three, h.three']
  rw [hl] at hv
  exact ⟨_, b, o, cap, hv, hA, hrd, h2, h.chains k _ _ h1 h2⟩
theorem r23_until {x : EntD} {g : FG} (hE : FEnt A w x g) {k : Nat} (hk : k < 3) : Ret Tryz.prog 130 [.agg ⟨entF (x, g)⟩, .int .i64 (k : Nat)] w fun v w' => v = .int .i64 (untilD x.bill (papAt x k)) ∧ Ex w w' := by
  obtain ⟨vc, b, o, cap, hv, hA, hrd, hvc, hch⟩ := hE.paper hk
  have hcm := hch.small
  obtain ⟨ca, ccap, rfl, hz, hr⟩ := hch.is
  simp only [List.length_map] at *
  unfold maxLen at hcm
  refine ret_of Tryz.func130 Tryz.ntmps130 rfl rfl rfl ?_
  (repeat (first | refine cw_seq ?_ | refine cw_region ?_))
  refine lw_box rfl ?_
  intro b1 w1 hbb hb1 hx1 hs1
  replace hb1 : Blk w1 b1 (entF (x, g)) 56 := hb1
  have hc : w1.cell? ⟨b1, 10, none⟩ = some (.slice (some ⟨b, o, none⟩) 3 cap) := by rw [hb1.cell, ← hv]; rfl
  have hrd1 := hrd.ex hx1
  (repeat (first | refine lw_pure hT rfl ?_ | refine lw_nil ?_ | refine cw_seq ?_ | refine cw_region ?_ | refine qw_then ?_))
  refine lw_load hT rfl rfl hc ?_
  (repeat (refine lw_pure hT rfl ?_))
  refine lw_index hT rfl rfl rfl k rfl hk ?_
  (repeat (refine lw_pure hT rfl ?_))
  refine lw_load hT rfl rfl (hrd1 2 _ rfl) ?_
  (repeat (first | refine lw_pure hT rfl ?_ | refine lw_nil ?_ | refine cw_seq ?_ | refine cw_region ?_ | refine qw_then ?_))
  refine cw_cond rfl (fun h => ?_) (fun h => ?_)
  · have h0 : 0 < (papAt x k).chain.length := by have := of_decide_eq_true h; omega
    have hne : (papAt x k).chain.map encE ≠ [] := by intro e; simp at e; rw [e] at h0; simp at h0
    obtain ⟨cb, co, rfl, _, hcrd⟩ := hr hne
    have hlt : (papAt x k).chain.length - 1 < (papAt x k).chain.length := by omega
    obtain ⟨_, hcrd⟩ := hcrd ((papAt x k).chain.length - 1) (encE (papAt x k).chain[(papAt x k).chain.length - 1]) (by simp [hlt])
    (repeat (first | refine lw_pure hT rfl ?_ | refine cw_seq ?_ | refine cw_region ?_))
    refine lw_load hT rfl rfl hc ?_
    (repeat (refine lw_pure hT rfl ?_))
    refine lw_index hT rfl rfl rfl k rfl hk ?_
    (repeat (refine lw_pure hT rfl ?_))
    refine lw_load hT rfl rfl (hrd1 2 _ rfl) ?_
    (repeat (first | (refine lw_sub rfl rfl ?_ ?_ ?_; iterate 2 omega) | refine lw_pure hT rfl ?_))
    refine lw_index hT rfl rfl rfl ((papAt x k).chain.length - 1) (by omega) hlt ?_
    (repeat (refine lw_pure hT rfl ?_))
    refine lw_load hT rfl rfl (v := .int .i64 (papAt x k).chain[(papAt x k).chain.length - 1].day) (Ex.cell hx1 (hcrd 3 _ rfl)) ?_
    (repeat (first | refine lw_pure hT rfl ?_ | refine lw_nil ?_ | refine qw_then ?_ | refine cw_ret ?_ | refine qw_then_ret ?_))
    refine qw_ret rfl ⟨?_, hx1⟩
    simp only [untilD, oneOr, List.getLast?_eq_getElem?, List.getElem?_eq_getElem hlt]
  · have h0 : (papAt x k).chain = [] := by have := of_decide_eq_false h; exact List.eq_nil_of_length_eq_zero (by omega)
    (repeat (first | refine lw_pure hT rfl ?_ | refine cw_seq ?_ | refine cw_region ?_ | refine qw_then ?_ | refine cw_skip ?_))
    refine lw_load hT rfl rfl (v := .int .i64 x.bill.issued) (hb1.cell 7) ?_
    (repeat (first | refine lw_pure hT rfl ?_ | refine lw_nil ?_ | refine qw_then ?_ | refine cw_ret ?_))
    refine qw_ret rfl ⟨?_, hx1⟩
    simp only [untilD, oneOr, h0]; rfl
end
theorem r23_Copy {A : Nat → Prop} {b : BillD} {vb vp : Value} (w : World) (hB : SlS A w vb b.boxes) (hP : SlS A w vp b.parents) (h1 : b.boxes.length ≤ 1000000) (h2 : b.parents.length ≤ 1000000) :
    Ret Tryz.prog 128 [.agg ⟨encB b vb vp⟩] w fun v w' => ∃ ub up, v = .agg ⟨encB b ub up⟩ ∧ w'.ownsRow w.heap.size 9 1 ub b.boxes.length (b.boxes.map Value.string) ∧
      w'.ownsRow w.heap.size 9 1 up b.parents.length (b.parents.map Value.string) ∧ Ex w w' := by
  refine ret_of Tryz.func128 Tryz.ntmps128 rfl rfl rfl ?_
  (repeat (first | refine cw_seq ?_ | refine cw_region ?_))
  refine lw_box rfl ?_
  intro bb w1 hbb hb1 hx1 hs1
  replace hb1 : Blk w1 bb (encB b vb vp) 33 := hb1
  skip
  refine lw_alloc z33 ?_
  intro bc w2 hbc hb2 hx2 hs2
  (repeat (first | refine lw_nil ?_ | refine cw_seq ?_ | refine cw_region ?_ | refine qw_then ?_))
  refine lw_buildSlice sl31 rfl rfl rfl ?_
  intro e1 w3 he1 hb3 hx3 hs3
  have hb13 := (hb1.ex hx2).ex hx3
  have hx03 := (hx1.trans hx2).trans hx3
  (repeat (refine lw_pure hT rfl ?_))
  refine lw_load hT rfl rfl (v := vb) (hb13.cell 5) ?_
  skip
  have hown1 : w3.ownsRow w2.heap.size 9 1 (.slice (some ⟨e1, 0, none⟩) 0 0) 0 [] := own_lit hb3 (by omega) rfl (by decide)
  refine lw_append_sl sl31 (by decide) rfl hown1 rfl (hB.ex hx03) (by simp [Value.oneCell']) (by simp [maxLen]; omega) (by simp; omega) (by omega) ?_
  intro ub w4 g1 g2 g3 g4
  have hl4 := g2.size
  rw [flat4] at g1
  simp only [List.length_map, Nat.zero_add, List.nil_append] at g1
  have hb14 := hb13.ext g2 (by simp [Value.ownBlock]; omega)
  (repeat (refine lw_pure hT rfl ?_))
  refine lw_store (size := 1) hT rfl rfl rfl (own_one g1) hb14 (show (5 : Nat) < 9 by decide) ?_
  intro w5 hb5 hx5 hs5
  have hub5 := own_ext g1 hx5 (fun k hk e => by have := own_base g1 hk; omega)
  (repeat (first | refine lw_nil ?_ | refine cw_seq ?_ | refine cw_region ?_ | refine qw_then ?_))
  refine lw_buildSlice sl31 rfl rfl rfl ?_
  intro e2 w6 he2 hb6 hx6 hs6
  have hb56 := hb5.ex hx6
  (repeat (refine lw_pure hT rfl ?_))
  refine lw_load hT rfl rfl (v := vp) (hb56.cell 6) ?_
  skip
  have hx04 : Ex w w4 := hx03.up_new g2 (fun i h => by simp [Value.ownBlock] at h; omega)
  have hx05 : Ex w w5 := hx04.up_new hx5 (fun i h => by omega)
  have hx06 := hx05.trans hx6
  have hown2 : w6.ownsRow w5.heap.size 9 1 (.slice (some ⟨e2, 0, none⟩) 0 0) 0 [] := own_lit hb6 (by omega) rfl (by decide)
  refine lw_append_sl sl31 (by decide) rfl hown2 rfl (hP.ex hx06) (by simp [Value.oneCell']) (by simp [maxLen]; omega) (by simp; omega) (by omega) ?_
  intro up w7 k1 k2 k3 k4
  rw [flat4] at k1
  simp only [List.length_map, Nat.zero_add, List.nil_append] at k1
  have hl5 := hx05.size
  have hb7 := hb56.ext k2 (by simp [Value.ownBlock]; omega)
  have hl7 := k2.size
  (repeat (refine lw_pure hT rfl ?_))
  refine lw_store (size := 1) hT rfl rfl rfl (own_one k1) hb7 (show (6 : Nat) < 9 by decide) ?_
  intro w8 hb8 hx8 hs8
  replace hb8 : Blk w8 bb (encB b ub up) 33 := hb8
  have hx07 : Ex w w7 := hx06.up_new k2 (fun i h => by simp [Value.ownBlock] at h; omega)
  have hx08 : Ex w w8 := hx07.up_new hx8 (fun i h => by omega)
  have hub6 := own_ex hub5 hx6
  have hub7 := own_ext hub6 k2 (fun k hk h => by have := own_base hub5 hk; simp [Value.ownBlock] at h; omega)
  have hub8 := own_ext hub7 hx8 (fun k hk e => by have := own_base g1 hk; omega)
  have hup8 := own_ext k1 hx8 (fun k hk e => by have := own_base k1 hk; omega)
  have hc2 : Blk w8 bc _ 33 := (((((hb2.ex hx3).ext g2 (by simp [Value.ownBlock]; omega)).ext hx5 (by omega)).ex hx6).ext k2 (by simp [Value.ownBlock]; omega)).ext hx8 (by omega)
  (repeat (first | refine lw_nil ?_ | refine cw_seq ?_ | refine cw_region ?_ | refine qw_then ?_))
  refine lw_load_agg hT rfl rfl rfl (vs := encB b ub up) ((hb8.rd 0 9)) ?_
  skip
  refine lw_store_agg hT rfl rfl rfl rfl ?_ hc2 (show (9 : Nat) ≤ 9 by decide) ?_
  · intro v hv
    simp [encB] at hv
    have := own_one g1
    have := own_one k1
    rcases hv with rfl | rfl | rfl | rfl | rfl | rfl | rfl | rfl | rfl <;> first | rfl | assumption
  intro w9 hb9 hx9 hs9
  (repeat (first | refine lw_nil ?_ | refine qw_then ?_ | refine cw_ret ?_))
  refine qw_ret_cell hT rfl rfl rfl rfl (vs := encB b ub up) (hb9.rd 0 9) rfl ⟨ub, up, rfl, ?_, ?_, ?_⟩
  · exact own_mono (own_ext hub8 hx9 (fun k hk e => by have := own_base g1 hk; omega)) (by omega)
  · exact own_mono (own_ext hup8 hx9 (fun k hk e => by have := own_base k1 hk; omega)) (by omega)
  · exact hx08.up_new hx9 (fun i h => by omega)
end Go.Proofs.YtnglkhnfmbnfeaaGreat
namespace Go.Proofs.YtnglkhnfmbnfeaaGreat
open Go Go.SK
theorem Sl.one {A : Nat → Prop} {w : World} {v : Value} {size : Nat} {rows : List (List Value)} (h : Sl A w v size rows) : v.oneCell' = true := by
  obtain ⟨a, cap, rfl, _⟩ := h.is; rfl
theorem entF_one {A : Nat → Prop} {w : World} {x : EntD} {g : FG} (h : FEnt A w x g) : ∀ u ∈ entF (x, g), u.oneCell' = true := by
  intro u hu
  simp [entF, encB] at hu
  rcases hu with rfl | rfl | rfl | rfl | rfl | rfl | rfl | rfl | rfl | rfl | rfl <;> first | rfl | exact Sl.one h.boxes | exact Sl.one h.parents | exact Sl.one h.papers
theorem FRep.one {A : Nat → Prop} {w : World} {vL : Value} {l : List EntD} {gs : List FG} (h : FRep A w vL l gs) : ∀ r ∈ (l.zip gs).map entF, ∀ u ∈ r, u.oneCell' = true := by
  intro r hr
  obtain ⟨⟨x, g⟩, hz, rfl⟩ := List.mem_map.1 hr
  obtain ⟨i, hi⟩ := List.getElem?_of_mem hz
  rw [List.getElem?_zip_eq_some] at hi
  exact entF_one (h.ents i x g hi.1 hi.2)
theorem FRep.len11 {l : List EntD} {gs : List FG} : ∀ r ∈ (l.zip gs).map entF, r.length = 11 := by
  intro r hr; obtain ⟨x, _, rfl⟩ := List.mem_map.1 hr; rfl
theorem own_cap {w : World} {base e size n : Nat} {v : Value} {xs : List Value} (h : w.ownsRow base e size v n xs) : ∀ a n c, v = .slice a n c → n ≤ c := by
  rcases h.2 with ⟨rfl, _⟩ | ⟨g, cap, cur, rfl, _, _, hc, _⟩ <;> intro a n c h <;> cases h
  · exact Nat.le_refl _
  · exact hc
theorem FRep.append {A : Nat → Prop} {w : World} {vL v1 v2 : Value} {l1 l2 : List EntD} {gs1 gs2 : List FG} (h1 : FRep A w v1 l1 gs1) (h2 : FRep A w v2 l2 gs2) {base te : Nat} (ho : w.ownsRow base te 11 vL (l1.length + l2.length) (((l1.zip gs1).map entF).flatten ++ ((l2.zip gs2).map entF).flatten)) (hA : ∀ b, vL.ownBlock = some b → A b) :
    FRep A w vL (l1 ++ l2) (gs1 ++ gs2) := by
  refine ⟨by simp [h1.len, h2.len], own_cap ho, ?_, ?_⟩
  · have e : ((l1 ++ l2).zip (gs1 ++ gs2)).map entF = (l1.zip gs1).map entF ++ (l2.zip gs2).map entF := by rw [List.zip_append h1.len, List.map_append]
    rw [e]
    refine own_sl (base := base) (e := te) (rows := (l1.zip gs1).map entF ++ (l2.zip gs2).map entF) ?_ ?_ hA
    · rw [List.flatten_append, List.length_append, List.length_map, List.length_map, List.length_zip, List.length_zip, ← h1.len, ← h2.len, Nat.min_self, Nat.min_self]; exact ho
    · intro r hr
      rcases List.mem_append.1 hr with hr | hr <;> exact FRep.len11 r hr
  · intro i x g hx hg
    rw [List.getElem?_append] at hx hg
    rw [← h1.len] at hg
    split at hx
    · next hlt => rw [if_pos hlt] at hg; exact h1.ents i x g hx hg
    · next hlt => rw [if_neg hlt] at hg; exact h2.ents _ x g hx hg
theorem find_isSome {l : List EntD} {n : ByteArray} : (l.find? fun e => decide (n = e.bill.number)).isSome = l.any fun e => decide (e.bill.number = n) := by
  rw [Bool.eq_iff_iff, List.find?_isSome]
  simp only [List.any_eq_true, decide_eq_true_eq]
  constructor <;> (rintro ⟨e, h1, h2⟩; exact ⟨e, h1, h2.symm⟩)
def issueF (c : ByteArray) (l : List EntD) (b : BillD) (holder : ByteArray) : Int :=
  if (!mayF c b || !nameB holder) = true then 1 else if (l.any fun e => decide (e.bill.number = b.number)) = true then 5 else if (b.boxes.any fun x => l.any fun e => e.hasF x) = true then 9 else if l.length ≥ 256 then 7 else 0
theorem issueF_eq {c : ByteArray} {l : List EntD} {b : BillD} {holder : ByteArray} (hl : l.length ≤ 256) : issueF c l b holder = issueC ⟨c, l⟩ b holder := by
  unfold issueF issueC
  rw [mayF_eq]
  have e1 : (b.boxes.any fun x => l.any fun e => e.hasF x) = b.boxes.any (RegD.boxed ⟨c, l⟩) := by
    apply List.any_congr rfl; intro x; unfold RegD.boxed; apply List.any_congr rfl; intro e; exact hasF_eq e x
  rw [e1]
  unfold RegD.at?
  rw [find_isSome]
  have e2 : (l.length ≥ 256) = (l.length = 256) := by apply propext; omega
  simp only [e2]
set_option maxHeartbeats 2000000 in
theorem r23_Issue {A A0 : Nat → Prop} {w : World} {vL : Value} {l : List EntD} {gs : List FG} {b : BillD} {vb vp : Value} (c : ByteArray) (hF : FRep A w vL l gs) (hl : l.length ≤ 256) (hB : SlS A0 w vb b.boxes) (hP : SlS A0 w vp b.parents) (hok : b.Ok) (hcap : ∀ a n c, vb = .slice a n c → n ≤ c)
    (holder : ByteArray) (hh : holder.size ≤ maxLen) :
    Ret Tryz.prog 78 [.agg ⟨encR c vL⟩, .agg ⟨encB b vb vp⟩, .string holder] w fun v w' =>
      (∃ vL' gs', v = .tuple #[.agg ⟨encR c vL'⟩, .int .i64 (issueC ⟨c, l⟩ b holder)] ∧ FRep (fun b => A b ∨ w.heap.size ≤ b) w' vL' (issueD ⟨c, l⟩ b holder).l gs') ∧ Ex w w' := by
  rw [← issueF_eq hl]
  have hD : issueF c l b holder ≠ 0 → (issueD ⟨c, l⟩ b holder).l = l := fun h => by unfold issueD; rw [← issueF_eq hl, if_neg h]
  have hBm := hB.small
  have hB0 := hB
  obtain ⟨ab, cb, hvb, hzb, hrb⟩ := hB.is
  subst hvb
  obtain ⟨aL, cL, hvL, hLm⟩ := hF.slice
  subst hvL
  simp only [List.length_map] at *
  unfold maxLen at hBm hLm
  refine ret_of Tryz.func78 Tryz.ntmps78 rfl rfl rfl ?_
  (repeat (first | refine cw_seq ?_ | refine cw_region ?_))
  refine lw_box rfl ?_
  intro b3 w1 hbb3 hb3 hx1 hs1
  replace hb3 : Blk w1 b3 (encR c (.slice aL l.length cL)) 28 := hb3
  skip
  refine lw_box rfl ?_
  intro b4 w2 hbb4 hb4 hx2 hs2
  replace hb4 : Blk w2 b4 (encB b (.slice ab b.boxes.length cb) vp) 33 := hb4
  skip
  refine lw_alloc z28 ?_
  intro b6 w3 hbb6 hb6 hx3 hs3
  have hx03 := (hx1.trans hx2).trans hx3
  have hb33 := (hb3.ex hx2).ex hx3
  have hb43 := hb4.ex hx3
  (repeat (first | refine lw_pure hT rfl ?_ | refine lw_nil ?_ | refine cw_seq ?_ | refine cw_region ?_ | refine qw_then ?_))
  refine lw_load hT rfl rfl (v := .string c) (hb33.cell 0) ?_
  skip
  refine lw_load_agg hT rfl rfl rfl (vs := encB b (.slice ab b.boxes.length cb) vp) (hb43.rd 0 9) ?_
  skip
  refine lw_call hT rfl rfl (r23_May w3 c b _ vp (hB0.ex hx03) (hP.ex hx03) hok hcap) ?_
  rintro _ w4 ⟨rfl, hx4⟩
  have hx04 := hx03.trans hx4
  have hb34 := hb33.ex hx4
  have hb44 := hb43.ex hx4
  have hb64 := hb6.ex hx4
  have hF4 := hF.ex hx04
  have old : ∀ {n : Nat} {w5 : World} {code : Int}, Ex w4 w5 → issueF c l b holder = code → code ≠ 0 → ∀ w6, Blk w6 b6 (encR c (.slice aL l.length cL)) 28 → Ext (· = b6) w5 w6 →
      (∃ vL' gs', Value.tuple #[.agg ⟨encR c (.slice aL l.length cL)⟩, .int .i64 code] = .tuple #[.agg ⟨encR c vL'⟩, .int .i64 (issueF c l b holder)] ∧ FRep (fun b => A b ∨ w.heap.size ≤ b) w6 vL' (issueD ⟨c, l⟩ b holder).l gs') ∧ Ex w w6 := by
    intro n w5 code hx5 hc hne w6 hb hx6
    have hx06 : Ex w w6 := (hx04.trans hx5).up_new hx6 (fun i hi => by have := hx1.size; omega)
    refine ⟨⟨_, gs, by rw [hc], ?_⟩, hx06⟩
    rw [hD (by rw [hc]; exact hne)]
    exact (hF.ex hx06).weaken fun _ h => .inl h
  (repeat (refine lw_pure hT rfl ?_))
  have bad : (!mayF c b || !nameB holder) = true → issueF c l b holder = 1 := fun h => by unfold issueF; rw [if_pos h]
  refine lw_guard rfl (fun h1 => ?_) (fun h1 => ?_)
  · (repeat (first | refine lw_pure hT rfl ?_ | refine lw_nil ?_ | refine cw_seq ?_ | refine cw_region ?_ | refine qw_then ?_ | (refine lw_goff_t rfl ?_ ?_; focus with_reducible (first | rfl | exact Bool.not_false | exact Bool.not_true)) | (refine cw_cond_t rfl ?_ ?_; focus with_reducible (first | rfl | exact Bool.not_false | exact Bool.not_true))))
    refine lw_load_agg hT rfl rfl rfl (vs := encR c (.slice aL l.length cL)) (hb34.rd 0 2) ?_
    skip
    refine lw_store_agg hT rfl rfl rfl rfl (by intro v hv; simp [encR] at hv; rcases hv with rfl | rfl <;> rfl) hb64 (show (2 : Nat) ≤ 2 by decide) ?_
    intro w6 hb66 hx6 hs6
    (repeat (first | refine lw_pure hT rfl ?_ | refine lw_nil ?_ | refine qw_then ?_ | refine cw_ret ?_ | refine qw_then_ret ?_))
    exact qw_ret_cell hT rfl rfl rfl rfl (vs := encR c (.slice aL l.length cL)) (hb66.rd 0 2) rfl (old (n := 0) (Ext.refl _ _) (bad (by rw [h1]; rfl)) (by decide) w6 hb66 hx6)
  · (repeat (first | refine lw_pure hT rfl ?_ | (refine lw_gon_f rfl ?_ ?_; focus with_reducible (first | rfl | exact Bool.not_false | exact Bool.not_true))))
    refine lw_call hT rfl rfl (r_Name holder w4 hh) ?_
    rintro _ _ ⟨rfl, rfl⟩
    (repeat (first | refine lw_pure hT rfl ?_ | refine lw_nil ?_ | refine qw_then ?_ | (refine lw_gon_f rfl ?_ ?_; focus with_reducible (first | rfl | exact Bool.not_false | exact Bool.not_true))))
    refine cw_cond rfl (fun h2 => ?_) (fun h2 => ?_)
    · (repeat (first | refine cw_seq ?_ | refine cw_region ?_))
      refine lw_load_agg hT rfl rfl rfl (vs := encR c (.slice aL l.length cL)) (hb34.rd 0 2) ?_
      skip
      refine lw_store_agg hT rfl rfl rfl rfl (by intro v hv; simp [encR] at hv; rcases hv with rfl | rfl <;> rfl) hb64 (show (2 : Nat) ≤ 2 by decide) ?_
      intro w6 hb66 hx6 hs6
      (repeat (first | refine lw_pure hT rfl ?_ | refine lw_nil ?_ | refine qw_then ?_ | refine cw_ret ?_ | refine qw_then_ret ?_))
      exact qw_ret_cell hT rfl rfl rfl rfl (vs := encR c (.slice aL l.length cL)) (hb66.rd 0 2) rfl (old (n := 0) (Ext.refl _ _) (bad (by rw [h2]; simp)) (by decide) w6 hb66 hx6)
    · have hgood : ¬ (!mayF c b || !nameB holder) = true := by rw [h1, h2]; decide
      (repeat (first | refine cw_seq ?_ | refine cw_region ?_ | refine qw_then ?_ | refine cw_skip ?_))
      refine lw_load_agg hT rfl rfl rfl (vs := encR c (.slice aL l.length cL)) (hb34.rd 0 2) ?_
      (repeat (refine lw_pure hT rfl ?_))
      refine lw_load hT rfl rfl (v := .string b.number) (hb44.cell 0) ?_
      skip
      refine lw_call hT rfl rfl (r23_Find c b.number hF4) ?_
      rintro _ w5 ⟨rfl, hx5⟩
      have hx45 := hx5
      have hb35 := hb34.ex hx5
      have hb45 := hb44.ex hx5
      have hb65 := hb64.ex hx5
      (repeat (first | refine lw_pure hT rfl ?_ | refine lw_nil ?_ | refine qw_then ?_))
      refine cw_cond rfl (fun h3 => ?_) (fun h3 => ?_)
      · rw [fidx_ge] at h3
        (repeat (first | refine cw_seq ?_ | refine cw_region ?_))
        refine lw_load_agg hT rfl rfl rfl (vs := encR c (.slice aL l.length cL)) (hb35.rd 0 2) ?_
        skip
        refine lw_store_agg hT rfl rfl rfl rfl (by intro v hv; simp [encR] at hv; rcases hv with rfl | rfl <;> rfl) hb65 (show (2 : Nat) ≤ 2 by decide) ?_
        intro w6 hb66 hx6 hs6
        (repeat (first | refine lw_pure hT rfl ?_ | refine lw_nil ?_ | refine qw_then ?_ | refine cw_ret ?_ | refine qw_then_ret ?_))
        exact qw_ret_cell hT rfl rfl rfl rfl (vs := encR c (.slice aL l.length cL)) (hb66.rd 0 2) rfl (old (n := 0) hx45 (by unfold issueF; rw [if_neg hgood, if_pos h3]) (by decide) w6 hb66 hx6)
      · rw [fidx_ge] at h3
        have h3' : ¬ (l.any fun e => decide (e.bill.number = b.number)) = true := by rw [h3]; decide
        have hF5 := hF4.ex hx5
        (repeat (first | refine lw_pure hT rfl ?_ | refine lw_nil ?_ | refine cw_seq ?_ | refine cw_region ?_ | refine qw_then ?_ | refine cw_skip ?_ | refine cw_block ?_))
        refine cw_loop (fun i : Nat => [(2, .string holder), (3, .pointer (some ⟨b3, 0, none⟩)), (4, .pointer (some ⟨b4, 0, none⟩)), (6, .pointer (some ⟨b6, 0, none⟩)), (8, .int .i64 (i : Nat))])
          (fun i w' => Ex w5 w' ∧ i ≤ b.boxes.length ∧ ∀ j (hj : j < b.boxes.length), j < i → (l.any fun e => e.hasF b.boxes[j]) = false) (fun i => b.boxes.length - i) 0 (by repeat (first | exact trivial | refine ⟨rfl, ?_⟩)) ⟨Ext.refl _ _, Nat.zero_le _, fun j _ hj => by omega⟩ ?_
        rintro i w6 ⟨hx6, hi, hno⟩
        have hx46 := hx45.trans hx6
        have hb36 := hb35.ex hx6
        have hb46 := hb45.ex hx6
        have hb66 := hb65.ex hx6
        have hF6 := hF5.ex hx6
        (repeat (first | refine lw_pure hT rfl ?_ | refine cw_seq ?_ | refine cw_region ?_))
        refine lw_load hT rfl rfl (v := .slice ab b.boxes.length cb) (hb46.cell 5) ?_
        (repeat (first | refine lw_pure hT rfl ?_ | refine lw_nil ?_ | refine qw_then ?_))
        refine cw_cond rfl (fun h => ?_) (fun h => ?_)
        · have hlt : i < b.boxes.length := by simp at h; omega
          have hne : b.boxes.map (fun s => [Value.string s]) ≠ [] := by intro e; simp at e; rw [e] at hlt; simp at hlt
          obtain ⟨bb, o, rfl, hA, hrd⟩ := hrb hne
          obtain ⟨hlen, hrd⟩ := hrd i [.string b.boxes[i]] (by simp [hlt])
          have hrd6 := hrd.ex (hx04.trans hx46)
          (repeat (first | refine cw_seq ?_ | refine qw_then ?_ | refine cw_skip ?_ | refine cw_block ?_))
          refine cw_draw hM (fun w' => Ex w6 w') [] rfl rfl (by repeat with_reducible (first | refine nop_then ?_ | refine nop_block ?_ | exact nop_body)) (fun w7 hx7 _ => ⟨hx7, ?_⟩)
          refine rw_take 0 rfl rfl (by kernel_rfl) (by kernel_rfl) (by kernel_rfl) (by kernel_rfl) rfl (yo_load_agg hT rfl rfl rfl (vs := encR c (.slice aL l.length cL)) (fun w' hS => (hb36.ex hS).rd 0 2)) ?_
          (refine rw_takeP 1 rfl rfl (by kernel_rfl) (by kernel_rfl) (by kernel_rfl) (by kernel_rfl) rfl (yo_pure hT rfl) ?_)
          refine rw_take 2 rfl rfl (by kernel_rfl) (by kernel_rfl) (by kernel_rfl) (by kernel_rfl) rfl (yo_load hT rfl rfl (fun w' hS => Ex.cell hS (hb46.cell 5))) ?_
          (refine rw_takeP 3 rfl rfl (by kernel_rfl) (by kernel_rfl) (by kernel_rfl) (by kernel_rfl) rfl (yo_pure hT rfl) ?_)
          refine rw_takeP 4 rfl rfl (by kernel_rfl) (by kernel_rfl) (by kernel_rfl) (by kernel_rfl) rfl (yo_index hT rfl rfl rfl i rfl hlt) ?_
          refine rw_take 5 rfl rfl (by kernel_rfl) (by kernel_rfl) (by kernel_rfl) (by kernel_rfl) rfl (yo_load hT rfl rfl (v := .string b.boxes[i]) (fun w' hS => Ex.cell hS (hrd6 0 _ rfl))) ?_
          refine rw_one 6 rfl (by kernel_rfl) rfl (fun hcl => ?_)
          skip
          refine lw_call hT rfl rfl (r23_Box c b.boxes[i] (hF6.ex hx7)) ?_
          rintro _ w8 ⟨rfl, hx8⟩
          have hx68 := hx7.trans hx8
          (repeat (refine lw_nil ?_))
          refine qw_rw (by repeat with_reducible (first | refine nop_then ?_ | refine nop_block ?_ | exact nop_body)) hcl (fun _ => hx68) ?_
          (refine rw_takeP 7 rfl rfl (by kernel_rfl) (by kernel_rfl) (by kernel_rfl) (by kernel_rfl) rfl (yo_pure hT rfl) ?_)
          refine rw_done (by kernel_rfl) ?_
          (repeat (refine qw_then ?_))
          refine cw_cond rfl (fun h' => ?_) (fun h' => ?_)
          · rw [fidx_ge] at h'
            (repeat (first | refine cw_seq ?_ | refine cw_region ?_))
            refine lw_load_agg hT rfl rfl rfl (vs := encR c (.slice aL l.length cL)) ((hb36.ex hx68).rd 0 2) ?_
            skip
            refine lw_store_agg hT rfl rfl rfl rfl (by intro v hv; simp [encR] at hv; rcases hv with rfl | rfl <;> rfl) (hb66.ex hx68) (show (2 : Nat) ≤ 2 by decide) ?_
            intro w9 hb69 hx9 hs9
            (repeat (first | refine lw_pure hT rfl ?_ | refine lw_nil ?_ | refine qw_then ?_ | refine cw_ret ?_ | refine qw_then_ret ?_ | refine qw_block_ret ?_))
            exact qw_ret_cell hT rfl rfl rfl rfl (vs := encR c _) (hb69.rd 0 2) rfl (old (n := 0) (hx46.trans hx68) (by
              unfold issueF
              rw [if_neg hgood, if_neg h3', if_pos (List.any_eq_true.2 ⟨_, List.getElem_mem hlt, h'⟩)]) (by decide) w9 hb69 hx9)
          · rw [fidx_ge] at h'
            (repeat (first | (refine lw_add rfl rfl ?_ ?_ ?_; iterate 2 omega) | refine lw_pure hT rfl ?_ | refine lw_nil ?_ | refine cw_region ?_ | refine qw_then ?_ | refine cw_skip ?_ | refine qw_block ?_))
            refine qw_round (i + 1) (by repeat (first | exact trivial | refine ⟨rfl, ?_⟩)) ⟨hx6.trans hx68, hlt, fun j hj hji => ?_⟩ (by omega)
            by_cases e : j = i
            · subst e; exact h'
            · exact hno j hj (by omega)
        · have : i = b.boxes.length := by simp at h; omega
          subst this
          have h4 : ¬ (b.boxes.any fun x => l.any fun e => e.hasF x) = true := by
            rw [Bool.not_eq_true, List.any_eq_false]
            intro x hx
            obtain ⟨j, hj, rfl⟩ := List.getElem_of_mem hx
            rw [hno j hj hj]; decide
          (repeat (first | refine lw_pure hT rfl ?_ | refine cw_seq ?_ | refine cw_region ?_ | refine qw_then ?_ | refine cw_exit ?_ | refine qw_block_exit ?_ | refine qw_then_exit ?_))
          refine lw_load hT rfl rfl (v := .slice aL l.length cL) (hb36.cell 1) ?_
          (repeat (first | refine lw_pure hT rfl ?_ | refine lw_nil ?_ | refine qw_then ?_))
          refine cw_cond rfl (fun h5 => ?_) (fun h5 => ?_)
          · have h5 : l.length ≥ 256 := by have := of_decide_eq_true h5; omega
            (repeat (first | refine cw_seq ?_ | refine cw_region ?_))
            refine lw_load_agg hT rfl rfl rfl (vs := encR c (.slice aL l.length cL)) (hb36.rd 0 2) ?_
            skip
            refine lw_store_agg hT rfl rfl rfl rfl (by intro v hv; simp [encR] at hv; rcases hv with rfl | rfl <;> rfl) hb66 (show (2 : Nat) ≤ 2 by decide) ?_
            intro w9 hb69 hx9 hs9
            (repeat (first | refine lw_pure hT rfl ?_ | refine lw_nil ?_ | refine qw_then ?_ | refine cw_ret ?_ | refine qw_then_ret ?_))
            exact qw_ret_cell hT rfl rfl rfl rfl (vs := encR c _) (hb69.rd 0 2) rfl (old (n := 0) hx46 (by unfold issueF; rw [if_neg hgood, if_neg h3', if_neg h4, if_pos h5]) (by decide) w9 hb69 hx9)
          · have h5 : ¬ l.length ≥ 256 := by have := of_decide_eq_false h5; omega
            have hc : issueF c l b holder = 0 := by unfold issueF; rw [if_neg hgood, if_neg h3', if_neg h4, if_neg h5]
            have hD' : (issueD ⟨c, l⟩ b holder).l = l ++ [newEnt b holder] := by unfold issueD; rw [← issueF_eq hl, if_pos hc]
            have hmay : mayF c b = true := by simpa using h1
            have hlen : b.boxes.length ≤ 64 ∧ b.parents.length ≤ 64 := by
              simp only [mayF, Bool.and_eq_true, decide_eq_true_eq] at hmay
              exact ⟨hmay.1.1.1.1.2, hmay.1.1.1.2⟩
            have hx06 := hx04.trans hx46
            have hl06 := hx06.size
            (repeat (first | refine lw_pure hT rfl ?_ | refine cw_seq ?_ | refine cw_region ?_ | refine qw_then ?_ | refine cw_skip ?_))
            refine lw_build bt126 rfl ?_
            (repeat (refine lw_pure hT rfl ?_))
            refine lw_build bt126 rfl ?_
            (repeat (refine lw_pure hT rfl ?_))
            refine lw_build bt126 rfl ?_
            skip
            refine lw_buildSlice sl54 rfl rfl rfl ?_
            intro b9 w7 hbb9 hb9 hx7 hs7
            have hb37 := hb36.ex hx7
            have hb47 := hb46.ex hx7
            have hb67 := hb66.ex hx7
            (repeat (first | refine lw_pure hT rfl ?_ | refine lw_nil ?_ | refine cw_seq ?_ | refine qw_then ?_))
            refine cw_draw hM (fun w' => Ex w7 w') [11] rfl rfl (by repeat with_reducible (first | refine nop_then ?_ | refine nop_block ?_ | exact nop_body)) (fun w8 hx8 _ => ⟨hx8, ?_⟩)
            (refine rw_takeP 1 rfl rfl (by kernel_rfl) (by kernel_rfl) (by kernel_rfl) (by kernel_rfl) rfl (yo_pure hT rfl) ?_)
            refine rw_take 2 rfl rfl (by kernel_rfl) (by kernel_rfl) (by kernel_rfl) (by kernel_rfl) rfl (yo_load hT rfl rfl (fun w' hS => Ex.cell hS (hb37.cell 1))) ?_
            refine rw_take 4 rfl rfl (by kernel_rfl) (by kernel_rfl) (by kernel_rfl) (by kernel_rfl) rfl (yo_load_agg hT rfl rfl rfl (vs := encB b (.slice ab b.boxes.length cb) vp) (fun w' hS => (hb47.ex hS).rd 0 9)) ?_
            (refine rw_takeP 6 rfl rfl (by kernel_rfl) (by kernel_rfl) (by kernel_rfl) (by kernel_rfl) rfl (yo_pure hT rfl) ?_)
            refine rw_one 0 rfl (by kernel_rfl) rfl (fun hcl => ?_)
            refine lw_buildSlice sl26 rfl rfl rfl ?_
            intro e1 w9 he1 hbe1 hx9 hs9
            have hx79 := hx8.trans hx9
            (repeat (refine lw_nil ?_))
            refine qw_rw (by repeat with_reducible (first | refine nop_then ?_ | refine nop_block ?_ | exact nop_body)) hcl (fun _ => hx79) ?_
            refine rw_one 3 rfl (by kernel_rfl) rfl (fun hcl => ?_)
            have hx09 := (hx06.trans hx7).trans hx79
            have hown1 : w9.ownsRow w8.heap.size 56 11 (.slice (some ⟨e1, 0, none⟩) 0 0) 0 [] := own_lit hbe1 (by omega) rfl (by decide)
            have hlz : ((l.zip gs).map entF).length = l.length := by simp [hF.len]
            refine lw_append_sl sl26 (by decide) rfl hown1 rfl (hF.ex hx09).sl (hF.ex hx09).one (by rw [hlz]; unfold maxLen; omega) (by rw [hlz]; omega) (by omega) ?_
            intro u1 w10 g1 g2 g3 g4
            rw [hlz, Nat.zero_add, List.nil_append] at g1
            have hl8 := hx8.size
            have hl9 := hx79.size
            have hx710 : Ex w7 w10 := hx79.up_new g2 (fun i h => by simp [Value.ownBlock] at h; omega)
            (repeat (refine lw_nil ?_))
            refine qw_rw (by repeat with_reducible (first | refine nop_then ?_ | refine nop_block ?_ | exact nop_body)) hcl (fun _ => hx710) ?_
            refine rw_one 5 rfl (by kernel_rfl) rfl (fun hcl => ?_)
            skip
            have hx010 := (hx06.trans hx7).trans hx710
            refine lw_call hT rfl rfl (r23_Copy w10 (hB0.ex hx010) (hP.ex hx010) (by omega) (by omega)) ?_
            rintro _ w11 ⟨ub, up, rfl, hub, hup, hx11⟩
            have hx711 := hx710.trans hx11
            (repeat (refine lw_nil ?_))
            refine qw_rw (by repeat with_reducible (first | refine nop_then ?_ | refine nop_block ?_ | exact nop_body)) hcl (fun _ => hx711) ?_
            refine rw_takeP 7 rfl rfl (by kernel_rfl) (by kernel_rfl) (by kernel_rfl) (by kernel_rfl) rfl (yo_build bt56 rfl) ?_
            refine rw_one 8 rfl (by kernel_rfl) rfl (fun hcl => ?_)
            refine lw_buildSlice sl26 rfl rfl rfl ?_
            intro e2 w12 he2 hbe2 hx12 hs12
            replace hbe2 : Blk w12 e2 (entF (newEnt b holder, ⟨ub, up, .slice (some ⟨b9, 0, none⟩) 3 3, [.slice none 0 0, .slice none 0 0, .slice none 0 0]⟩)) 56 := hbe2
            have hx712 := hx711.trans hx12
            (repeat (refine lw_nil ?_))
            refine qw_rw (by repeat with_reducible (first | refine nop_then ?_ | refine nop_block ?_ | exact nop_body)) hcl (fun _ => hx712) ?_
            refine rw_one 9 rfl (by kernel_rfl) rfl (fun hcl => ?_)
            have hx1012 := hx11.trans hx12
            have hown2 := own_ex g1 hx1012
            have hub12 := own_ex hub hx12
            have hup12 := own_ex hup hx12
            have hl10 := hx710.size
            have hl11 := hx711.size
            have hl910 := g2.size
            have hl1011 := hx11.size
            have hrdn : Rd w12 e2 0 (entF (newEnt b holder, ⟨ub, up, .slice (some ⟨b9, 0, none⟩) 3 3, [.slice none 0 0, .slice none 0 0, .slice none 0 0]⟩)) := hbe2.rd 0 11
            refine lw_append sl26 (by decide) rfl hown2 rfl hrdn rfl (by
              intro u hu
              simp [entF, encB, newEnt] at hu
              have := own_one hub
              have := own_one hup
              rcases hu with rfl | rfl | rfl | rfl | rfl | rfl | rfl | rfl | rfl | rfl | rfl <;> first | rfl | assumption) (by unfold maxLen; omega) (by omega) (by omega) ?_
            intro u2 w13 k1 k2 k3 k4
            have hl12 := hx712.size
            have hu1b : ∀ k, u1.ownBlock = some k → w8.heap.size ≤ k := fun k hk => (own_base g1 hk).1
            have hx713 : Ex w7 w13 := hx712.up_new k2 (fun i h => by have := hu1b i h.symm; omega)
            (repeat (refine lw_nil ?_))
            refine qw_rw (by repeat with_reducible (first | refine nop_then ?_ | refine nop_block ?_ | exact nop_body)) hcl (fun _ => hx713) ?_
            (refine rw_takeP 10 rfl rfl (by kernel_rfl) (by kernel_rfl) (by kernel_rfl) (by kernel_rfl) rfl (yo_pure hT rfl) ?_)
            refine rw_one 11 rfl (by kernel_rfl) rfl (fun hcl => ?_)
            refine lw_store (size := 1) hT rfl rfl rfl (own_one k1) (hb37.ex hx713) (show (1 : Nat) < 2 by decide) ?_
            intro w14 hb314 hx14 hs14
            replace hb314 : Blk w14 b3 (encR c u2) 28 := hb314
            (repeat (refine lw_nil ?_))
            refine qw_rw (by repeat with_reducible (first | refine nop_then ?_ | refine nop_block ?_ | exact nop_body)) hcl (fun h => absurd h (by decide)) ?_
            refine rw_done (by kernel_rfl) ?_
            (repeat (first | refine cw_seq ?_ | refine cw_region ?_ | refine qw_then ?_))
            have hx014 : Ex w w14 := ((hx06.trans hx7).trans hx713).up_new hx14 (fun i h => by omega)
            have hl1 := hx1.size
            refine lw_load_agg hT rfl rfl rfl (vs := encR c u2) (hb314.rd 0 2) ?_
            skip
            refine lw_store_agg hT rfl rfl rfl rfl (by intro v hv; simp [encR] at hv; rcases hv with rfl | rfl <;> first | rfl | exact own_one k1) ((hb67.ex hx713).ext hx14 (by omega)) (show (2 : Nat) ≤ 2 by decide) ?_
            intro w15 hb615 hx15 hs15
            (repeat (first | refine lw_pure hT rfl ?_ | refine lw_nil ?_ | refine qw_then ?_ | refine cw_ret ?_))
            have hx015 : Ex w w15 := hx014.up_new hx15 (fun i h => by omega)
            have hl7 := hx7.size
            have hl36 := (hx4.trans hx46).size
            refine qw_ret_cell hT rfl rfl rfl rfl (vs := encR c u2) (hb615.rd 0 2) rfl ⟨⟨u2, gs ++ [⟨ub, up, .slice (some ⟨b9, 0, none⟩) 3 3, [.slice none 0 0, .slice none 0 0, .slice none 0 0]⟩], by rw [hc]; rfl, ?_⟩, hx015⟩
            rw [hD']
            have hu1l : ∀ k, u1.ownBlock = some k → k < w10.heap.size := fun k hk => (own_base g1 hk).2
            have hx1115 : Ext (fun k => some k = u1.ownBlock ∨ k = b3 ∨ k = b6) w12 w15 := ((k2.mono fun _ _ h => .inl h).trans (hx14.mono fun _ _ h => .inr (.inl h))).trans (hx15.mono fun _ _ h => .inr (.inr h))
            have hbe15 := hbe2.ext hx1115 (by rintro (h | h | h) <;> first | (have := hu1l _ h.symm; omega) | omega)
            have hb915 : Blk w15 b9 ([.int .i64 0, .string holder, .slice none 0 0] ++ [.int .i64 0, .string holder, .slice none 0 0] ++ [.int .i64 0, .string holder, .slice none 0 0]) 126 := (hb9.ex hx712).ext hx1115 (by rintro (h | h | h) <;> first | (have := hu1b _ h.symm; have := hb9.lt; omega) | omega)
            have hub15 := own_ext hub12 hx1115 (fun k hk h => by have := own_base hub hk; rcases h with h | h | h <;> first | (have := hu1l _ h.symm; omega) | omega)
            have hup15 := own_ext hup12 hx1115 (fun k hk h => by have := own_base hup hk; rcases h with h | h | h <;> first | (have := hu1l _ h.symm; omega) | omega)
            have hnew : FRep (fun b => A b ∨ w.heap.size ≤ b) w15 (.slice (some ⟨e2, 0, none⟩) 1 1) [newEnt b holder] [⟨ub, up, .slice (some ⟨b9, 0, none⟩) 3 3, [.slice none 0 0, .slice none 0 0, .slice none 0 0]⟩] := by
              refine ⟨rfl, (fun a n c h => by cases h; exact Nat.le_refl _), Sl.of_rd (A := fun b => A b ∨ w.heap.size ≤ b) (o := 0) (rows := [entF (newEnt b holder, _)]) (.inr (by omega)) (by intro r hr; simp at hr; subst hr; rfl) (hbe15.rd 0 11) (by simp [maxLen]), ?_⟩
              intro i x g hx hg
              cases i with
              | succ i => simp at hx
              | zero =>
                simp at hx hg
                subst hx hg
                refine ⟨sls_own hub15 (fun k hk => .inr (by have := own_base hub hk; omega)), sls_own hup15 (fun k hk => .inr (by have := own_base hup hk; omega)), rfl, rfl, ?_, ?_, own_cap hub15⟩
                · exact Sl.of_rd (A := fun b => A b ∨ w.heap.size ≤ b) (o := 0) (rows := [papRow (⟨0, holder, []⟩, .slice none 0 0), papRow (⟨0, holder, []⟩, .slice none 0 0), papRow (⟨0, holder, []⟩, .slice none 0 0)]) (.inr (by omega)) (by simp [papRow]) (hb915.rd 0 9) (by simp [maxLen])
                · intro j q vc hq hvc
                  have hv0 : vc = .slice none 0 0 := by
                    match j, hvc with
                    | 0, hvc => simpa using hvc.symm
                    | 1, hvc => simpa using hvc.symm
                    | 2, hvc => simpa using hvc.symm
                    | _ + 3, hvc => simp at hvc
                  have hq0 : q.chain = [] := by
                    match j, hq with
                    | 0, hq => simp [newEnt] at hq; subst hq; rfl
                    | 1, hq => simp [newEnt] at hq; subst hq; rfl
                    | 2, hq => simp [newEnt] at hq; subst hq; rfl
                    | _ + 3, hq => simp [newEnt] at hq
                  rw [hv0, hq0]
                  exact Sl.nil _ _ _
            have hold := ((hF.ex hx015).weaken (B := fun b => A b ∨ w.heap.size ≤ b) fun _ h => .inl h)
            have hu2 : ∀ k, u2.ownBlock = some k → w8.heap.size ≤ k := fun k hk => (own_base k1 hk).1
            have k15 := own_ext (own_ext k1 hx14 (fun k hk e => by have := hu2 k hk; omega)) hx15 (fun k hk e => by have := hu2 k hk; omega)
            exact hold.append hnew (by simpa using k15) (fun k hk => .inr (by have := hu2 k hk; omega))
end Go.Proofs.YtnglkhnfmbnfeaaGreat
namespace Go.SK
open Go
attribute [local semireducible] CW LW QW Ret Kn
section
variable {P : Program} {n : Nat} {fr : Fr} {w : World} {Q : Exit → Act → World → Prop}
theorem cw_then_cut {α : Type} {x : Code} {K : Act → World → Prop} (F : α → Fr) (I : α → World → Prop) (h1 : CW P x (Exit.then (fun a w => ∃ s, Kn n (F s) a ∧ I s w) Q) n fr w) (h2 : ∀ s w', I s w' → QW (Exit.then K Q) .normal n (F s) w') : CW P x (Exit.then K Q) n fr w :=
  cw_mono h1 fun e a w h => by
    cases e with
    | normal => obtain ⟨s, hk, hI⟩ := h; exact h2 s w hI a hk
    | _ => exact h
theorem qw_cut {α : Type} {F : α → Fr} {I : α → World → Prop} (s : α) (hs : subB (F s) fr) (hI : I s w) : QW (Exit.then (fun a w => ∃ s, Kn n (F s) a ∧ I s w) Q) .normal n fr w := fun _ hk => ⟨s, hk.sub (sub_of hs), hI⟩
end
end Go.SK
namespace Go.Proofs.YtnglkhnfmbnfeaaGreat
open Go Go.SK
theorem fidx_cases (l : List EntD) (num : ByteArray) :
    (fidx (fun e => decide (e.bill.number = num)) l = -1 ∧ RegD.at? ⟨⟨#[]⟩, l⟩ num = none) ∨ ∃ (i : Nat) (hi : i < l.length), fidx (fun e => decide (e.bill.number = num)) l = i ∧ RegD.at? ⟨⟨#[]⟩, l⟩ num = some l[i] := by
  unfold RegD.at? fidx
  have hp : (fun e : EntD => decide (num = e.bill.number)) = fun e => decide (e.bill.number = num) := by
    funext e; by_cases h : num = e.bill.number
    · simp [h]
    · have : ¬ e.bill.number = num := fun h' => h h'.symm
      simp [h, this]
  dsimp only
  rw [hp]
  induction l with
  | nil => exact .inl ⟨rfl, rfl⟩
  | cons x l ih =>
    by_cases h : x.bill.number = num
    · exact .inr ⟨0, by simp, by simp [List.findIdx?_cons, h], by simp [h]⟩
    · rcases ih with ⟨h1, h2⟩ | ⟨i, hi, h1, h2⟩
      · left
        refine ⟨?_, by simp [h, h2]⟩
        cases hf : l.findIdx? (fun e => decide (e.bill.number = num)) with
        | none => simp [List.findIdx?_cons, h, hf]
        | some k => rw [hf] at h1; simp at h1
      · right
        refine ⟨i + 1, by simp; omega, ?_, by simp [h, h2]⟩
        cases hf : l.findIdx? (fun e => decide (e.bill.number = num)) with
        | none => rw [hf] at h1; simp at h1
        | some k => rw [hf] at h1; simp at h1; simp [List.findIdx?_cons, h, hf, h1]
def whichN (a : ActD) : List Nat := (whichD a).map Int.toNat
def badIx (a : ActD) : Bool := (decide (a.kind ≠ 5) && (decide (a.index < 0) || decide (a.index > 2))) && !(decide (a.kind = 1) && decide (a.index = -1))
def badArg (a : ActD) : Bool := (decide (a.kind ≠ 3) && !dayB a.day) || (decide (a.kind = 1) && (!nameB a.to_ || decide (a.to_ = a.by_)))
def stW (a : ActD) : Int := if a.kind = 4 then 3 else 0
def wrongE (x : EntD) (a : ActD) : Int :=
  if badIx a then 3 else if badArg a then 1
  else if (whichN a).any (fun k => decide (x.state ≠ 0) || decide ((papAt x k).state ≠ stW a)) then 9
  else if (whichN a).any (fun k => decide ((papAt x k).holder ≠ a.by_)) then 8
  else if (whichN a).any (fun k => decide (a.kind ≠ 3) && decide (a.day < untilD x.bill (papAt x k))) then 6 else 0
theorem goodIx {a : ActD} (hk : 1 ≤ a.kind ∧ a.kind ≤ 5) (h : badIx a = false) : whichD a = (whichN a).map (fun k : Nat => (k : Int)) ∧ whichN a = ixs a.ask.index ∧ whichN a ≠ [] := by
  have : a.kind = 1 ∨ a.kind = 2 ∨ a.kind = 3 ∨ a.kind = 4 ∨ a.kind = 5 := by omega
  simp only [badIx] at h
  by_cases h5 : a.kind = 5 ∨ (a.kind = 1 ∧ a.index = -1)
  · have e : whichD a = [0, 1, 2] := by unfold whichD; rw [if_pos h5]
    have ei : a.ask.index = -1 := by
      rcases h5 with h5 | ⟨h5, h6⟩
      · simp [ActD.ask, h5]
      · simp [ActD.ask, h5, h6]
    unfold whichN; rw [e, ei]; exact ⟨rfl, rfl, by simp⟩
  · have e : whichD a = [a.index] := by unfold whichD; rw [if_neg h5]
    have h1 : a.kind ≠ 5 := fun h => h5 (.inl h)
    have h2 : 0 ≤ a.index ∧ a.index ≤ 2 := by
      have h6 : ¬ (a.kind = 1 ∧ a.index = -1) := fun h => h5 (.inr h)
      simp only [Bool.and_eq_false_iff, Bool.or_eq_false_iff, Bool.not_eq_false', Bool.and_eq_true, decide_eq_false_iff_not, decide_eq_true_eq] at h
      omega
    have ei : a.ask.index = a.index := by
      have ho : oneI a.index = a.index := by unfold oneI; rw [if_neg (by omega)]
      rcases this with h | h | h | h | h <;> simp [ActD.ask, h, ho]
      exact absurd h h1
    unfold whichN; rw [e, ei]
    have : a.index = 0 ∨ a.index = 1 ∨ a.index = 2 := by omega
    rcases this with h | h | h <;> rw [h] <;> exact ⟨rfl, rfl, by simp⟩
theorem wrongE_eq {x : EntD} {a : ActD} (hk : 1 ≤ a.kind ∧ a.kind ≤ 5) : wrongE x a = askE x a.ask := by
  have hks : a.kind = 1 ∨ a.kind = 2 ∨ a.kind = 3 ∨ a.kind = 4 ∨ a.kind = 5 := by omega
  rw [askE_eq]
  cases hb : badIx a with
  | true =>
    have h0 : asks x a.ask 0 = true := by
      simp only [badIx, Bool.and_eq_true, decide_eq_true_eq, Bool.or_eq_true, Bool.not_eq_true', Bool.and_eq_false_iff, decide_eq_false_iff_not] at hb
      obtain ⟨⟨h1, h2⟩, h3⟩ := hb
      have one0 : ixs (oneI a.index) = [] := by
        unfold oneI
        by_cases h : a.index = -1
        · rw [if_pos h]; rfl
        · rw [if_neg h]; unfold ixs; rw [if_neg h, if_neg (by omega), if_neg (by omega), if_neg (by omega)]
      have : ixs a.ask.index = [] := by
        rcases hks with h | h | h | h | h
        · have hn : ¬ a.index = -1 := by rcases h3 with h3 | h3; exact absurd h h3; exact h3
          have : a.ask.index = a.index := by simp [ActD.ask, h]
          rw [this]; unfold ixs; rw [if_neg hn, if_neg (by omega), if_neg (by omega), if_neg (by omega)]
        · have : a.ask.index = oneI a.index := by simp [ActD.ask, h]
          rw [this]; exact one0
        · have : a.ask.index = oneI a.index := by simp [ActD.ask, h]
          rw [this]; exact one0
        · have : a.ask.index = oneI a.index := by simp [ActD.ask, h]
          rw [this]; exact one0
        · exact absurd h h1
      simp [asks, this]
    unfold wrongE; rw [if_pos hb, if_pos h0]
  | false =>
    obtain ⟨e1, e2, e3⟩ := goodIx hk hb
    have h0 : asks x a.ask 0 = false := by
      simp only [asks, ← e2]
      cases hw : whichN a with
      | nil => exact absurd hw e3
      | cons _ _ => simp
    have h1 : asks x a.ask 1 = badArg a := by
      rcases hks with h | h | h | h | h <;> simp [asks, badArg, ActD.ask, h]
    have h2 : asks x a.ask 2 = (whichN a).any (fun k => decide (x.state ≠ 0) || decide ((papAt x k).state ≠ stW a)) := by
      simp only [asks, ← e2]
      have es : a.ask.state = stW a := by rcases hks with h | h | h | h | h <;> simp [ActD.ask, stW, h]
      rw [es]
      cases hd : decide (x.state ≠ 0) with
      | true =>
        cases hw : whichN a with
        | nil => exact absurd hw e3
        | cons _ _ => simp
      | false => simp
    have h3 : asks x a.ask 3 = (whichN a).any (fun k => decide ((papAt x k).holder ≠ a.by_)) := by
      simp only [asks, ← e2]
      have es : a.ask.by_ = a.by_ := by rcases hks with h | h | h | h | h <;> simp [ActD.ask, h]
      rw [es]
    have h4 : asks x a.ask 4 = (whichN a).any (fun k => decide (a.kind ≠ 3) && decide (a.day < untilD x.bill (papAt x k))) := by
      simp only [asks, ← e2]
      rcases hks with h | h | h | h | h <;> simp [ActD.ask, h]
    rw [h0, h1, h2, h3, h4]
    unfold wrongE; rw [hb]
end Go.Proofs.YtnglkhnfmbnfeaaGreat
namespace Go.Proofs.YtnglkhnfmbnfeaaGreat
open Go Go.SK
set_option maxHeartbeats 4000000 in
theorem r23_Wrong {A A0 : Nat → Prop} {w : World} {vL : Value} {l : List EntD} {gs : List FG} (c : ByteArray) (hF : FRep A w vL l gs) (a : ActD) (vb vp : Value) (hk : 1 ≤ a.kind ∧ a.kind ≤ 5) (hto : a.to_.size ≤ maxLen) :
    Ret Tryz.prog 79 [.agg ⟨encR c vL⟩, .agg ⟨encAct a vb vp⟩] w fun v w' => v = .int .i64 (askC ⟨c, l⟩ a.ask) ∧ Ex w w' := by
  have hbill : a.ask.bill = a.bill := by
    have : a.kind = 1 ∨ a.kind = 2 ∨ a.kind = 3 ∨ a.kind = 4 ∨ a.kind = 5 := by omega
    rcases this with h | h | h | h | h <;> simp [ActD.ask, h]
  obtain ⟨aL, cL, hvL, hLm⟩ := hF.slice
  subst hvL
  unfold maxLen at hLm
  refine ret_of Tryz.func79 Tryz.ntmps79 rfl rfl rfl ?_
  (repeat (first | refine cw_seq ?_ | refine cw_region ?_))
  refine lw_box rfl ?_
  intro b2 w1 hbb2 hb2 hx1 hs1
  replace hb2 : Blk w1 b2 (encR c (.slice aL l.length cL)) 28 := hb2
  skip
  refine lw_box rfl ?_
  intro b3 w2 hbb3 hb3 hx2 hs2
  replace hb3 : Blk w2 b3 (encAct a vb vp) 73 := hb3
  have hx02 := hx1.trans hx2
  have hb22 := hb2.ex hx2
  (repeat (first | refine lw_pure hT rfl ?_ | refine lw_nil ?_ | refine cw_seq ?_ | refine cw_region ?_ | refine qw_then ?_))
  refine lw_load_agg hT rfl rfl rfl (vs := encR c (.slice aL l.length cL)) (hb22.rd 0 2) ?_
  (repeat (refine lw_pure hT rfl ?_))
  refine lw_load hT rfl rfl (v := .string a.bill) (hb3.cell 3) ?_
  skip
  refine lw_call hT rfl rfl (r23_Find c a.bill (hF.ex hx02)) ?_
  rintro _ w3 ⟨rfl, hx3⟩
  have hx03 := hx02.trans hx3
  have hb23 := hb22.ex hx3
  have hb33 := hb3.ex hx3
  have hF3 := hF.ex hx03
  rcases fidx_cases l a.bill with ⟨hi, hat⟩ | ⟨i, hil, hi, hat⟩
  · rw [hi]
    (repeat (first | refine lw_pure hT rfl ?_ | refine lw_nil ?_ | refine cw_seq ?_ | refine cw_region ?_ | refine qw_then ?_))
    refine cw_cond_t rfl (by decide) ?_
    (repeat (first | refine lw_pure hT rfl ?_ | refine lw_nil ?_ | refine cw_seq ?_ | refine cw_region ?_ | refine qw_then ?_ | refine cw_ret ?_ | refine qw_then_ret ?_))
    refine qw_ret rfl ⟨?_, hx03⟩
    have : RegD.at? ⟨c, l⟩ a.ask.bill = none := by rw [hbill]; exact hat
    simp only [askC, this]; rfl
  · rw [hi]
    have hask : askC ⟨c, l⟩ a.ask = wrongE l[i] a := by
      have : RegD.at? ⟨c, l⟩ a.ask.bill = some l[i] := by rw [hbill]; exact hat
      simp only [askC, this]; exact (wrongE_eq hk).symm
    rw [hask]
    obtain ⟨x, g, bL, oL, cL', hx_, hg_, hv, hrd, hE⟩ := hF3.row hil
    cases hv
    have hxi : x = l[i] := by rw [List.getElem?_eq_getElem hil] at hx_; exact (Option.some.inj hx_).symm
    rw [← hxi]
    (repeat (first | refine lw_pure hT rfl ?_ | refine lw_nil ?_ | refine cw_seq ?_ | refine cw_region ?_ | refine qw_then ?_))
    refine cw_cond_f rfl (decide_eq_false (by omega)) ?_
    (repeat (first | refine cw_skip ?_ | refine qw_then ?_ | refine cw_seq ?_))
    refine cw_then_cut (α := Unit) (fun _ => [(2, .pointer (some ⟨b2, 0, none⟩)), (3, .pointer (some ⟨b3, 0, none⟩)), (5, .int .i64 (i : Nat)), (41, .bool (badIx a))]) (fun _ w' => w3 = w') ?_ ?_
    · have fin : ∀ (v : Bool) fr, v = badIx a → subB [(2, .pointer (some ⟨b2, 0, none⟩)), (3, .pointer (some ⟨b3, 0, none⟩)), (5, .int .i64 (i : Nat)), (41, .bool v)] fr → ∀ {Q : Exit → Act → World → Prop}, QW (Exit.then (fun a' w' => ∃ s : Unit, Kn 139 [(2, .pointer (some ⟨b2, 0, none⟩)), (3, .pointer (some ⟨b3, 0, none⟩)), (5, .int .i64 (i : Nat)), (41, .bool (badIx a))] a' ∧ w3 = w') Q) .normal 139 fr w3 := by
        intro v fr hv hs Q; subst hv; exact qw_cut (F := fun _ : Unit => _) (I := fun _ w' => w3 = w') () hs rfl
      (repeat (first | refine lw_pure hT rfl ?_ | refine cw_region ?_))
      refine lw_load hT rfl rfl (v := .int .i64 a.kind) (hb33.cell 0) ?_
      (repeat (refine lw_pure hT rfl ?_))
      refine lw_guard rfl (fun h1 => ?_) (fun h1 => ?_)
      · (repeat (first | refine lw_pure hT rfl ?_ | (refine lw_gon_t rfl ?_ ?_; focus with_reducible (first | rfl | exact Bool.not_false | exact Bool.not_true))))
        refine lw_load hT rfl rfl (v := .int .i64 a.index) (hb33.cell 1) ?_
        (repeat (first | refine lw_pure hT rfl ?_ | (refine lw_gon_t rfl ?_ ?_; focus with_reducible (first | rfl | exact Bool.not_false | exact Bool.not_true))))
        refine lw_guard rfl (fun h2 => ?_) (fun h2 => ?_)
        · (repeat (first | refine lw_pure hT rfl ?_ | (refine lw_gon_t rfl ?_ ?_; focus with_reducible (first | rfl | exact Bool.not_false | exact Bool.not_true)) | (refine lw_goff_t rfl ?_ ?_; focus with_reducible (first | rfl | exact Bool.not_false | exact Bool.not_true))))
          refine lw_load hT rfl rfl (v := .int .i64 a.kind) (hb33.cell 0) ?_
          (repeat (first | refine lw_pure hT rfl ?_ | (refine lw_gon_t rfl ?_ ?_; focus with_reducible (first | rfl | exact Bool.not_false | exact Bool.not_true))))
          refine lw_guard rfl (fun h3 => ?_) (fun h3 => ?_)
          · (repeat (first | refine lw_pure hT rfl ?_ | (refine lw_gon_t rfl ?_ ?_; focus with_reducible (first | rfl | exact Bool.not_false | exact Bool.not_true))))
            refine lw_load hT rfl rfl (v := .int .i64 a.index) (hb33.cell 1) ?_
            (repeat (first | refine lw_pure hT rfl ?_ | refine lw_nil ?_ | (refine lw_gon_t rfl ?_ ?_; focus with_reducible (first | rfl | exact Bool.not_false | exact Bool.not_true))))
            exact fin _ _ (by simp only [badIx, h1, h2, h3]; rfl) (by repeat (first | exact trivial | refine ⟨rfl, ?_⟩))
          · (repeat (first | refine lw_pure hT rfl ?_ | refine lw_nil ?_ | (refine lw_gon_t rfl ?_ ?_; focus with_reducible (first | rfl | exact Bool.not_false | exact Bool.not_true)) | (refine lw_goff_f rfl ?_ ?_; focus with_reducible (first | rfl | exact Bool.not_false | exact Bool.not_true))))
            exact fin _ _ (by simp only [badIx, h1, h2, h3]; rfl) (by repeat (first | exact trivial | refine ⟨rfl, ?_⟩))
        · (repeat (first | refine lw_pure hT rfl ?_ | (refine lw_gon_f rfl ?_ ?_; focus with_reducible (first | rfl | exact Bool.not_false | exact Bool.not_true))))
          refine lw_load hT rfl rfl (v := .int .i64 a.index) (hb33.cell 1) ?_
          (repeat (first | refine lw_pure hT rfl ?_ | (refine lw_gon_t rfl ?_ ?_; focus with_reducible (first | rfl | exact Bool.not_false | exact Bool.not_true)) | (refine lw_gon_f rfl ?_ ?_; focus with_reducible (first | rfl | exact Bool.not_false | exact Bool.not_true))))
          refine lw_guard rfl (fun h4 => ?_) (fun h4 => ?_)
          · (repeat (first | refine lw_pure hT rfl ?_ | (refine lw_gon_t rfl ?_ ?_; focus with_reducible (first | rfl | exact Bool.not_false | exact Bool.not_true))))
            refine lw_load hT rfl rfl (v := .int .i64 a.kind) (hb33.cell 0) ?_
            (repeat (first | refine lw_pure hT rfl ?_ | (refine lw_gon_t rfl ?_ ?_; focus with_reducible (first | rfl | exact Bool.not_false | exact Bool.not_true))))
            refine lw_guard rfl (fun h3 => ?_) (fun h3 => ?_)
            · (repeat (first | refine lw_pure hT rfl ?_ | (refine lw_gon_t rfl ?_ ?_; focus with_reducible (first | rfl | exact Bool.not_false | exact Bool.not_true))))
              refine lw_load hT rfl rfl (v := .int .i64 a.index) (hb33.cell 1) ?_
              (repeat (first | refine lw_pure hT rfl ?_ | refine lw_nil ?_ | (refine lw_gon_t rfl ?_ ?_; focus with_reducible (first | rfl | exact Bool.not_false | exact Bool.not_true))))
              exact fin _ _ (by simp only [badIx, h1, h2, h3, h4]; rfl) (by repeat (first | exact trivial | refine ⟨rfl, ?_⟩))
            · (repeat (first | refine lw_pure hT rfl ?_ | refine lw_nil ?_ | (refine lw_gon_t rfl ?_ ?_; focus with_reducible (first | rfl | exact Bool.not_false | exact Bool.not_true)) | (refine lw_goff_f rfl ?_ ?_; focus with_reducible (first | rfl | exact Bool.not_false | exact Bool.not_true))))
              exact fin _ _ (by simp only [badIx, h1, h2, h3, h4]; rfl) (by repeat (first | exact trivial | refine ⟨rfl, ?_⟩))
          · (repeat (first | refine lw_pure hT rfl ?_ | refine lw_nil ?_ | refine lw_goff_u rfl ?_ | (refine lw_goff_f rfl ?_ ?_; focus with_reducible (first | rfl | exact Bool.not_false | exact Bool.not_true))))
            exact fin _ _ (by simp only [badIx, h1, h2, h4]; rfl) (by repeat (first | exact trivial | refine ⟨rfl, ?_⟩))
      · (repeat (first | refine lw_pure hT rfl ?_ | refine lw_nil ?_ | refine lw_goff_u rfl ?_ | (refine lw_goff_f rfl ?_ ?_; focus with_reducible (first | rfl | exact Bool.not_false | exact Bool.not_true))))
        exact fin _ _ (by simp only [badIx, h1]; rfl) (by repeat (first | exact trivial | refine ⟨rfl, ?_⟩))
    rintro _ _ rfl
    (repeat (refine qw_then ?_))
    refine cw_cond rfl (fun hb => ?_) (fun hb => ?_)
    · (repeat (first | refine lw_pure hT rfl ?_ | refine lw_nil ?_ | refine cw_seq ?_ | refine cw_region ?_ | refine qw_then ?_ | refine cw_ret ?_ | refine qw_then_ret ?_))
      exact qw_ret rfl ⟨by unfold wrongE; rw [if_pos hb]; rfl, hx03⟩
    (repeat (first | refine cw_skip ?_ | refine qw_then ?_ | refine cw_seq ?_))
    refine cw_then_cut (α := Unit) (fun _ => [(2, .pointer (some ⟨b2, 0, none⟩)), (3, .pointer (some ⟨b3, 0, none⟩)), (5, .int .i64 (i : Nat)), (68, .bool (badArg a))]) (fun _ w' => w3 = w') ?_ ?_
    · have fin : ∀ (v : Bool) fr, v = badArg a → subB [(2, .pointer (some ⟨b2, 0, none⟩)), (3, .pointer (some ⟨b3, 0, none⟩)), (5, .int .i64 (i : Nat)), (68, .bool v)] fr → ∀ {Q : Exit → Act → World → Prop}, QW (Exit.then (fun a' w' => ∃ s : Unit, Kn 139 [(2, .pointer (some ⟨b2, 0, none⟩)), (3, .pointer (some ⟨b3, 0, none⟩)), (5, .int .i64 (i : Nat)), (68, .bool (badArg a))] a' ∧ w3 = w') Q) .normal 139 fr w3 := by
        intro v fr hv hs Q; subst hv; exact qw_cut (F := fun _ : Unit => _) (I := fun _ w' => w3 = w') () hs rfl
      have tl : ∀ {d : Bool} {P Q : Prop}, P → P := fun h => h
      (repeat (first | refine lw_pure hT rfl ?_ | refine cw_region ?_))
      refine lw_load hT rfl rfl (v := .int .i64 a.kind) (hb33.cell 0) ?_
      (repeat (refine lw_pure hT rfl ?_))
      refine lw_guard rfl (fun h1 => ?_) (fun h1 => ?_)
      · (repeat (first | refine lw_pure hT rfl ?_ | (refine lw_gon_t rfl ?_ ?_; focus with_reducible (first | rfl | exact Bool.not_false | exact Bool.not_true))))
        refine lw_load hT rfl rfl (v := .int .i64 a.day) (hb33.cell 2) ?_
        (repeat (refine lw_gon_t rfl ?_ ?_; focus with_reducible (first | rfl | exact Bool.not_false | exact Bool.not_true)))
        refine lw_call hT rfl rfl (r23_Day _ w3) ?_
        rintro _ _ ⟨rfl, rfl⟩
        (repeat (first | refine lw_pure hT rfl ?_ | (refine lw_gon_t rfl ?_ ?_; focus with_reducible (first | rfl | exact Bool.not_false | exact Bool.not_true))))
        refine lw_guard rfl (fun h2 => ?_) (fun h2 => ?_)
        · (repeat (first | refine lw_pure hT rfl ?_ | refine lw_nil ?_ | refine lw_goff_u rfl ?_ | (refine lw_goff_t rfl ?_ ?_; focus with_reducible (first | rfl | exact Bool.not_false | exact Bool.not_true))))
          exact fin _ _ (by simp only [badArg, h1, h2]; rfl) (by repeat (first | exact trivial | refine ⟨rfl, ?_⟩))
        · (repeat (first | refine lw_pure hT rfl ?_ | (refine lw_gon_f rfl ?_ ?_; focus with_reducible (first | rfl | exact Bool.not_false | exact Bool.not_true))))
          refine lw_load hT rfl rfl (v := .int .i64 a.kind) (hb33.cell 0) ?_
          (repeat (first | refine lw_pure hT rfl ?_ | (refine lw_gon_f rfl ?_ ?_; focus with_reducible (first | rfl | exact Bool.not_false | exact Bool.not_true))))
          refine lw_guard rfl (fun h3 => ?_) (fun h3 => ?_)
          · (repeat (first | refine lw_pure hT rfl ?_ | (refine lw_gon_t rfl ?_ ?_; focus with_reducible (first | rfl | exact Bool.not_false | exact Bool.not_true))))
            refine lw_load hT rfl rfl (v := .string a.to_) (hb33.cell 5) ?_
            (repeat (refine lw_gon_t rfl ?_ ?_; focus with_reducible (first | rfl | exact Bool.not_false | exact Bool.not_true)))
            refine lw_call hT rfl rfl (r_Name _ w3 hto) ?_
            rintro _ _ ⟨rfl, rfl⟩
            (repeat (first | refine lw_pure hT rfl ?_ | (refine lw_gon_t rfl ?_ ?_; focus with_reducible (first | rfl | exact Bool.not_false | exact Bool.not_true))))
            refine lw_guard rfl (fun h4 => ?_) (fun h4 => ?_)
            · (repeat (first | refine lw_pure hT rfl ?_ | refine lw_nil ?_ | (refine lw_gon_t rfl ?_ ?_; focus with_reducible (first | rfl | exact Bool.not_false | exact Bool.not_true)) | (refine lw_goff_t rfl ?_ ?_; focus with_reducible (first | rfl | exact Bool.not_false | exact Bool.not_true)) | (refine lw_gon_f rfl ?_ ?_; focus with_reducible (first | rfl | exact Bool.not_false | exact Bool.not_true))))
              exact fin _ _ (by simp only [badArg, h1, h2, h3, h4]; rfl) (by repeat (first | exact trivial | refine ⟨rfl, ?_⟩))
            · (repeat (first | refine lw_pure hT rfl ?_ | (refine lw_gon_f rfl ?_ ?_; focus with_reducible (first | rfl | exact Bool.not_false | exact Bool.not_true))))
              refine lw_load hT rfl rfl (v := .string a.to_) (hb33.cell 5) ?_
              (repeat (first | refine lw_pure hT rfl ?_ | (refine lw_gon_f rfl ?_ ?_; focus with_reducible (first | rfl | exact Bool.not_false | exact Bool.not_true))))
              refine lw_load hT rfl rfl (v := .string a.by_) (hb33.cell 4) ?_
              (repeat (first | refine lw_pure hT rfl ?_ | refine lw_nil ?_ | (refine lw_gon_t rfl ?_ ?_; focus with_reducible (first | rfl | exact Bool.not_false | exact Bool.not_true)) | (refine lw_gon_f rfl ?_ ?_; focus with_reducible (first | rfl | exact Bool.not_false | exact Bool.not_true))))
              exact fin _ _ (by simp only [badArg, h1, h2, h3, h4]; rfl) (by repeat (first | exact trivial | refine ⟨rfl, ?_⟩))
          · (repeat (first | refine lw_pure hT rfl ?_ | refine lw_nil ?_ | refine lw_goff_u rfl ?_ | (refine lw_goff_f rfl ?_ ?_; focus with_reducible (first | rfl | exact Bool.not_false | exact Bool.not_true)) | (refine lw_gon_f rfl ?_ ?_; focus with_reducible (first | rfl | exact Bool.not_false | exact Bool.not_true))))
            exact fin _ _ (by simp only [badArg, h1, h2, h3]; rfl) (by repeat (first | exact trivial | refine ⟨rfl, ?_⟩))
      · (repeat (first | refine lw_pure hT rfl ?_ | (refine lw_goff_f rfl ?_ ?_; focus with_reducible (first | rfl | exact Bool.not_false | exact Bool.not_true)) | (refine lw_gon_f rfl ?_ ?_; focus with_reducible (first | rfl | exact Bool.not_false | exact Bool.not_true))))
        refine lw_load hT rfl rfl (v := .int .i64 a.kind) (hb33.cell 0) ?_
        (repeat (first | refine lw_pure hT rfl ?_ | (refine lw_gon_f rfl ?_ ?_; focus with_reducible (first | rfl | exact Bool.not_false | exact Bool.not_true))))
        refine lw_guard rfl (fun h3 => ?_) (fun h3 => ?_)
        · (repeat (first | refine lw_pure hT rfl ?_ | (refine lw_gon_t rfl ?_ ?_; focus with_reducible (first | rfl | exact Bool.not_false | exact Bool.not_true))))
          refine lw_load hT rfl rfl (v := .string a.to_) (hb33.cell 5) ?_
          (repeat (refine lw_gon_t rfl ?_ ?_; focus with_reducible (first | rfl | exact Bool.not_false | exact Bool.not_true)))
          refine lw_call hT rfl rfl (r_Name _ w3 hto) ?_
          rintro _ _ ⟨rfl, rfl⟩
          (repeat (first | refine lw_pure hT rfl ?_ | (refine lw_gon_t rfl ?_ ?_; focus with_reducible (first | rfl | exact Bool.not_false | exact Bool.not_true))))
          refine lw_guard rfl (fun h4 => ?_) (fun h4 => ?_)
          · (repeat (first | refine lw_pure hT rfl ?_ | refine lw_nil ?_ | (refine lw_gon_t rfl ?_ ?_; focus with_reducible (first | rfl | exact Bool.not_false | exact Bool.not_true)) | (refine lw_goff_t rfl ?_ ?_; focus with_reducible (first | rfl | exact Bool.not_false | exact Bool.not_true)) | (refine lw_gon_f rfl ?_ ?_; focus with_reducible (first | rfl | exact Bool.not_false | exact Bool.not_true))))
            exact fin _ _ (by simp only [badArg, h1, h3, h4]; rfl) (by repeat (first | exact trivial | refine ⟨rfl, ?_⟩))
          · (repeat (first | refine lw_pure hT rfl ?_ | (refine lw_gon_f rfl ?_ ?_; focus with_reducible (first | rfl | exact Bool.not_false | exact Bool.not_true))))
            refine lw_load hT rfl rfl (v := .string a.to_) (hb33.cell 5) ?_
            (repeat (first | refine lw_pure hT rfl ?_ | (refine lw_gon_f rfl ?_ ?_; focus with_reducible (first | rfl | exact Bool.not_false | exact Bool.not_true))))
            refine lw_load hT rfl rfl (v := .string a.by_) (hb33.cell 4) ?_
            (repeat (first | refine lw_pure hT rfl ?_ | refine lw_nil ?_ | (refine lw_gon_t rfl ?_ ?_; focus with_reducible (first | rfl | exact Bool.not_false | exact Bool.not_true)) | (refine lw_gon_f rfl ?_ ?_; focus with_reducible (first | rfl | exact Bool.not_false | exact Bool.not_true))))
            exact fin _ _ (by simp only [badArg, h1, h3, h4]; rfl) (by repeat (first | exact trivial | refine ⟨rfl, ?_⟩))
        · (repeat (first | refine lw_pure hT rfl ?_ | refine lw_nil ?_ | refine lw_goff_u rfl ?_ | (refine lw_goff_f rfl ?_ ?_; focus with_reducible (first | rfl | exact Bool.not_false | exact Bool.not_true)) | (refine lw_gon_f rfl ?_ ?_; focus with_reducible (first | rfl | exact Bool.not_false | exact Bool.not_true))))
          exact fin _ _ (by simp only [badArg, h1, h3]; rfl) (by repeat (first | exact trivial | refine ⟨rfl, ?_⟩))
    rintro _ _ rfl
    (repeat (refine qw_then ?_))
    refine cw_cond rfl (fun hba => ?_) (fun hba => ?_)
    · (repeat (first | refine lw_pure hT rfl ?_ | refine lw_nil ?_ | refine cw_seq ?_ | refine cw_region ?_ | refine qw_then ?_ | refine cw_ret ?_ | refine qw_then_ret ?_))
      exact qw_ret rfl ⟨by unfold wrongE; rw [hb, hba]; rfl, hx03⟩
    obtain ⟨eW, eI, eN⟩ := goodIx hk hb
    (repeat (first | refine cw_skip ?_ | refine qw_then ?_ | refine cw_seq ?_))
    refine cw_then_cut (α := Nat × Value) (fun s => [(3, .pointer (some ⟨b3, 0, none⟩)), (6, .pointer (some ⟨s.1, 0, none⟩)), (7, s.2), (8, .int .i64 0)]) (fun s w' => Ex w3 w' ∧ Blk w' s.1 (entF (x, g)) 56 ∧ SlI (fun b => w3.heap.size ≤ b) w' s.2 (whichD a)) ?_ ?_
    · refine cw_draw hM (fun w' => Ex w3 w') [] rfl rfl (by repeat with_reducible (first | refine nop_then ?_ | refine nop_block ?_ | exact nop_body)) (fun w4 hx4 _ => ⟨hx4, ?_⟩)
      (refine rw_takeP 0 rfl rfl (by kernel_rfl) (by kernel_rfl) (by kernel_rfl) (by kernel_rfl) rfl (yo_pure hT rfl) ?_)
      refine rw_take 1 rfl rfl (by kernel_rfl) (by kernel_rfl) (by kernel_rfl) (by kernel_rfl) rfl (yo_load hT rfl rfl (fun w' hS => Ex.cell hS (hb23.cell 1))) ?_
      (refine rw_takeP 2 rfl rfl (by kernel_rfl) (by kernel_rfl) (by kernel_rfl) (by kernel_rfl) rfl (yo_pure hT rfl) ?_)
      refine rw_takeP 3 rfl rfl (by kernel_rfl) (by kernel_rfl) (by kernel_rfl) (by kernel_rfl) rfl (yo_index hT rfl rfl rfl i rfl hil) ?_
      refine rw_take 4 rfl rfl (by kernel_rfl) (by kernel_rfl) (by kernel_rfl) (by kernel_rfl) rfl (yo_load_agg hT rfl rfl rfl (vs := entF (x, g)) (fun w' hS => hrd.ex hS)) ?_
      refine rw_take 5 rfl rfl (by kernel_rfl) (by kernel_rfl) (by kernel_rfl) (by kernel_rfl) rfl (yo_load_agg hT rfl rfl rfl (vs := encAct a vb vp) (fun w' hS => (hb33.ex hS).rd 0 15)) ?_
      have hl4 := hx4.size
      refine rw_two 6 7 rfl rfl (by kernel_rfl) rfl rfl (fun hcl => ?_) (fun hcl => ?_)
      · skip
        refine lw_call hT rfl rfl (r23_which a vb vp w4) ?_
        rintro v5 w5 ⟨hv5, hx5⟩
        have hl5 := hx5.size
        (repeat (refine lw_nil ?_))
        refine qw_rw (by repeat with_reducible (first | refine nop_then ?_ | refine nop_block ?_ | exact nop_body)) hcl (fun _ => hx4.trans hx5) ?_
        refine rw_one 7 rfl (by kernel_rfl) rfl (fun hcl => ?_)
        refine lw_alloc z56 ?_
        intro b6 w6 hbb6 hb6 hx6 hs6
        (repeat (refine lw_nil ?_))
        refine qw_rw (by repeat with_reducible (first | refine nop_then ?_ | refine nop_block ?_ | exact nop_body)) hcl (fun _ => (hx4.trans hx5).trans hx6) ?_
        refine rw_one 8 rfl (by kernel_rfl) rfl (fun hcl => ?_)
        refine lw_store_agg hT rfl rfl rfl rfl (entF_one hE) hb6 (show (11 : Nat) ≤ 11 by decide) ?_
        intro w7 hb7 hx7 hs7
        have hx37 := ((hx4.trans hx5).trans hx6).up_new hx7 (fun i hi => by omega)
        (repeat (refine lw_nil ?_))
        refine qw_rw (by repeat with_reducible (first | refine nop_then ?_ | refine nop_block ?_ | exact nop_body)) hcl (fun _ => hx37) ?_
        (refine rw_takeP 9 rfl rfl (by kernel_rfl) (by kernel_rfl) (by kernel_rfl) (by kernel_rfl) rfl (yo_pure hT rfl) ?_; refine rw_takeP 10 rfl rfl (by kernel_rfl) (by kernel_rfl) (by kernel_rfl) (by kernel_rfl) rfl (yo_pure hT rfl) ?_)
        refine rw_done (by kernel_rfl) ?_
        skip
        exact qw_cut (b6, v5) (by repeat (first | exact trivial | refine ⟨rfl, ?_⟩)) ⟨hx37, hb7, (((hv5.weaken (B := fun b => w3.heap.size ≤ b ∧ b ≠ b6) (fun b hb => ⟨by have := hb.1; omega, by have := hb.2; omega⟩)).ex hx6).ext hx7 (fun b hb => hb.2)).weaken fun b hb => hb.1⟩
      · refine lw_alloc z56 ?_
        intro b6 w6 hbb6 hb6 hx6 hs6
        (repeat (refine lw_nil ?_))
        refine qw_rw (by repeat with_reducible (first | refine nop_then ?_ | refine nop_block ?_ | exact nop_body)) hcl (fun _ => hx4.trans hx6) ?_
        refine rw_one 6 rfl (by kernel_rfl) rfl (fun hcl => ?_)
        skip
        refine lw_call hT rfl rfl (r23_which a vb vp w6) ?_
        rintro v5 w5 ⟨hv5, hx5⟩
        have hl5 := hx5.size
        have hb65 := hb6.ex hx5
        (repeat (refine lw_nil ?_))
        refine qw_rw (by repeat with_reducible (first | refine nop_then ?_ | refine nop_block ?_ | exact nop_body)) hcl (fun _ => (hx4.trans hx6).trans hx5) ?_
        refine rw_one 8 rfl (by kernel_rfl) rfl (fun hcl => ?_)
        refine lw_store_agg hT rfl rfl rfl rfl (entF_one hE) hb65 (show (11 : Nat) ≤ 11 by decide) ?_
        intro w7 hb7 hx7 hs7
        have hx37 := ((hx4.trans hx6).trans hx5).up_new hx7 (fun i hi => by omega)
        (repeat (refine lw_nil ?_))
        refine qw_rw (by repeat with_reducible (first | refine nop_then ?_ | refine nop_block ?_ | exact nop_body)) hcl (fun _ => hx37) ?_
        (refine rw_takeP 9 rfl rfl (by kernel_rfl) (by kernel_rfl) (by kernel_rfl) (by kernel_rfl) rfl (yo_pure hT rfl) ?_; refine rw_takeP 10 rfl rfl (by kernel_rfl) (by kernel_rfl) (by kernel_rfl) (by kernel_rfl) rfl (yo_pure hT rfl) ?_)
        refine rw_done (by kernel_rfl) ?_
        skip
        exact qw_cut (b6, v5) (by repeat (first | exact trivial | refine ⟨rfl, ?_⟩)) ⟨hx37, hb7, ((hv5.weaken (B := fun b => w3.heap.size ≤ b ∧ b ≠ b6) (fun b hb => ⟨by have := hb.1; omega, by have := hb.1; omega⟩)).ext hx7 (fun b hb => hb.2)).weaken fun b hb => hb.1⟩
    rintro ⟨b6, v7⟩ w4 ⟨hx4, hb6, hv7⟩
    dsimp only at hb6 hv7
    have hx04 := hx03.trans hx4
    have hb34 := hb33.ex hx4
    have hE4 := hE.ex hx4
    have hnn : ((whichD a).map fun i => [Value.int .i64 i]) ≠ [] := by rw [eW]; simp; exact eN
    have hwl : (whichD a).length = (whichN a).length := by rw [eW]; simp
    have hwm := hv7.small
    obtain ⟨va, vcap, hv7e, _, hvr⟩ := hv7.is
    subst hv7e
    obtain ⟨bw, ow, rfl, hbw, hwrd⟩ := hvr hnn
    simp only [List.length_map] at hwm ⊢
    unfold maxLen at hwm
    have hlen3 : (whichN a).length ≤ 3 := by rw [eI, ← ixs_eq]; exact Nat.le_trans (List.length_filter_le _ _) (by simp)
    have get : ∀ j (hj : j < (whichN a).length), (whichN a)[j] < 3 ∧ w4.cell? ⟨bw, ow + j * 1, none⟩ = some (.int .i64 ((whichN a)[j] : Nat)) := by
      intro j hj
      refine ⟨ixs_lt (index := a.ask.index) (eI ▸ List.getElem_mem hj), ?_⟩
      have h1 : ((whichD a).map fun i => [Value.int .i64 i])[j]? = some [.int .i64 ((whichN a)[j] : Nat)] := by
        rw [eW, List.map_map, List.getElem?_map, List.getElem?_eq_getElem hj]; rfl
      exact (hwrd j _ h1).2 0 _ rfl
    rw [hwl]
    (repeat (first | refine qw_then ?_ ))
    refine cw_seq ?_
    refine cw_then_cut (α := Unit) (fun _ => [(3, .pointer (some ⟨b3, 0, none⟩)), (6, .pointer (some ⟨b6, 0, none⟩)), (7, .slice (some ⟨bw, ow, none⟩) (whichN a).length vcap), (8, .int .i64 (stW a))]) (fun _ w' => w4 = w') ?_ ?_
    · (repeat (first | refine lw_pure hT rfl ?_ | refine cw_seq ?_ | refine cw_region ?_))
      refine lw_load hT rfl rfl (v := .int .i64 a.kind) (hb34.cell 0) ?_
      (repeat (first | refine lw_pure hT rfl ?_ | refine lw_nil ?_ | refine qw_then ?_))
      refine cw_cond rfl (fun h => ?_) (fun h => ?_)
      · have e : stW a = 3 := by unfold stW; rw [if_pos (by simpa using h)]
        rw [e]
        (repeat (first | refine lw_pure hT rfl ?_ | refine lw_nil ?_ | refine cw_region ?_))
        exact qw_cut () (by repeat (first | exact trivial | refine ⟨rfl, ?_⟩)) rfl
      · have e : stW a = 0 := by unfold stW; rw [if_neg (by simpa using h)]
        rw [e]
        (repeat (refine cw_skip ?_))
        exact qw_cut () (by repeat (first | exact trivial | refine ⟨rfl, ?_⟩)) rfl
    rintro _ _ rfl
    -- the first walk over the originals: their states
    (repeat (first | refine lw_pure hT rfl ?_ | refine lw_nil ?_ | refine cw_seq ?_ | refine cw_region ?_ | refine qw_then ?_ | refine cw_block ?_))
    refine cw_loop (fun j : Nat => [(3, .pointer (some ⟨b3, 0, none⟩)), (6, .pointer (some ⟨b6, 0, none⟩)), (7, .slice (some ⟨bw, ow, none⟩) (whichN a).length vcap), (8, .int .i64 (stW a)), (9, .int .i64 (j : Nat))])
      (fun j w' => Ex w4 w' ∧ j ≤ (whichN a).length ∧ ∀ j' (hj : j' < (whichN a).length), j' < j → (decide (x.state ≠ 0) || decide ((papAt x (whichN a)[j']).state ≠ stW a)) = false) (fun j => (whichN a).length - j) 0 (by repeat (first | exact trivial | refine ⟨rfl, ?_⟩)) ⟨Ext.refl _ _, Nat.zero_le _, fun j' _ h => by omega⟩ ?_
    rintro j w5 ⟨hx5, hj, hno⟩
    (repeat (first | refine lw_pure hT rfl ?_ | refine lw_nil ?_ | refine cw_seq ?_ | refine cw_region ?_ | refine qw_then ?_))
    refine cw_cond rfl (fun h => ?_) (fun h => ?_)
    · have hlt : j < (whichN a).length := by have := of_decide_eq_true h; omega
      obtain ⟨hk3, hcell⟩ := get j hlt
      obtain ⟨vc, bp, op, capp, hvP, _, hprd, _, _⟩ := hE4.paper hk3
      have step : (decide (x.state ≠ 0) || decide ((papAt x (whichN a)[j]).state ≠ stW a)) = false → ∀ j' (hj : j' < (whichN a).length), j' < j + 1 → (decide (x.state ≠ 0) || decide ((papAt x (whichN a)[j']).state ≠ stW a)) = false := by
        intro h' j' hj' hjj
        by_cases e : j' = j
        · subst e; exact h'
        · exact hno j' hj' (by omega)
      have hit : (decide (x.state ≠ 0) || decide ((papAt x (whichN a)[j]).state ≠ stW a)) = true → wrongE x a = 9 := fun h' => by
        unfold wrongE; rw [hb, hba, if_pos (List.any_eq_true.2 ⟨_, List.getElem_mem hlt, h'⟩)]; rfl
      (repeat (first | refine cw_seq ?_ | refine qw_then ?_ | refine cw_skip ?_ | refine cw_block ?_))
      refine cw_draw hM (fun w' => Ex w4 w') [] rfl rfl (by repeat with_reducible (first | refine nop_then ?_ | refine nop_block ?_ | exact nop_body)) (fun w6 hx6 _ => ⟨hx5.trans hx6, ?_⟩)
      (refine rw_takeP 0 rfl rfl (by kernel_rfl) (by kernel_rfl) (by kernel_rfl) (by kernel_rfl) rfl (yo_pure hT rfl) ?_)
      refine rw_take 1 rfl rfl (by kernel_rfl) (by kernel_rfl) (by kernel_rfl) (by kernel_rfl) rfl (yo_load hT rfl rfl (v := .int .i64 x.state) (fun w' hS => Ex.cell hS (hb6.cell 9))) ?_
      (refine rw_takeP 2 rfl rfl (by kernel_rfl) (by kernel_rfl) (by kernel_rfl) (by kernel_rfl) rfl (yo_pure hT rfl) ?_; refine rw_takeP 3 rfl rfl (by kernel_rfl) (by kernel_rfl) (by kernel_rfl) (by kernel_rfl) rfl (yo_pure hT rfl) ?_)
      refine rw_split (d := 88) rfl (fun h8 => ?_) (fun h8 => ?_)
      · (refine rw_takeP 4 rfl rfl (by kernel_rfl) (by kernel_rfl) (by kernel_rfl) (by kernel_rfl) rfl (yo_off rfl rfl) ?_; refine rw_takeP 5 rfl rfl (by kernel_rfl) (by kernel_rfl) (by kernel_rfl) (by kernel_rfl) rfl (yo_off rfl rfl) ?_; refine rw_takeP 6 rfl rfl (by kernel_rfl) (by kernel_rfl) (by kernel_rfl) (by kernel_rfl) rfl (yo_off rfl rfl) ?_; refine rw_takeP 7 rfl rfl (by kernel_rfl) (by kernel_rfl) (by kernel_rfl) (by kernel_rfl) rfl (yo_off rfl rfl) ?_; refine rw_takeP 8 rfl rfl (by kernel_rfl) (by kernel_rfl) (by kernel_rfl) (by kernel_rfl) rfl (yo_off rfl rfl) ?_; refine rw_takeP 9 rfl rfl (by kernel_rfl) (by kernel_rfl) (by kernel_rfl) (by kernel_rfl) rfl (yo_off rfl rfl) ?_; refine rw_takeP 10 rfl rfl (by kernel_rfl) (by kernel_rfl) (by kernel_rfl) (by kernel_rfl) rfl (yo_off rfl rfl) ?_; refine rw_takeP 11 rfl rfl (by kernel_rfl) (by kernel_rfl) (by kernel_rfl) (by kernel_rfl) rfl (yo_off rfl rfl) ?_; refine rw_takeP 12 rfl rfl (by kernel_rfl) (by kernel_rfl) (by kernel_rfl) (by kernel_rfl) rfl (yo_off rfl rfl) ?_; refine rw_takeP 13 rfl rfl (by kernel_rfl) (by kernel_rfl) (by kernel_rfl) (by kernel_rfl) rfl (yo_off rfl rfl) ?_; refine rw_takeP 14 rfl rfl (by kernel_rfl) (by kernel_rfl) (by kernel_rfl) (by kernel_rfl) rfl (yo_off rfl rfl) ?_)
        (refine rw_takeP 15 rfl rfl (by kernel_rfl) (by kernel_rfl) (by kernel_rfl) (by kernel_rfl) rfl (yo_pure hT rfl) ?_)
        refine rw_done (by kernel_rfl) ?_
        (repeat (first | refine lw_pure hT rfl ?_ | refine lw_nil ?_ | refine cw_seq ?_ | refine cw_region ?_ | refine qw_then ?_ | refine cw_ret ?_ | refine qw_then_ret ?_ | refine qw_block_ret ?_ | (refine cw_cond_t rfl ?_ ?_; focus with_reducible (first | rfl | exact Bool.not_false | exact Bool.not_true))))
        exact qw_ret rfl ⟨by rw [hit (by rw [h8]; rfl)]; rfl, (hx04.trans hx5).trans hx6⟩
      · (refine rw_takeP 4 rfl rfl (by kernel_rfl) (by kernel_rfl) (by kernel_rfl) (by kernel_rfl) rfl (yo_on rfl rfl (yo_pure hT rfl)) ?_)
        refine rw_take 5 rfl rfl (by kernel_rfl) (by kernel_rfl) (by kernel_rfl) (by kernel_rfl) rfl (yo_on rfl rfl (yo_load hT rfl rfl (fun w' hS => Ex.cell hS ((hb6.cell 10).trans (congrArg some hvP))))) ?_
        (refine rw_takeP 6 rfl rfl (by kernel_rfl) (by kernel_rfl) (by kernel_rfl) (by kernel_rfl) rfl (yo_on rfl rfl (yo_pure hT rfl)) ?_; refine rw_takeP 7 rfl rfl (by kernel_rfl) (by kernel_rfl) (by kernel_rfl) (by kernel_rfl) rfl (yo_on rfl rfl (yo_pure hT rfl)) ?_)
        refine rw_takeP 8 rfl rfl (by kernel_rfl) (by kernel_rfl) (by kernel_rfl) (by kernel_rfl) rfl (yo_on rfl rfl (yo_index hT rfl rfl rfl j rfl hlt)) ?_
        refine rw_take 9 rfl rfl (by kernel_rfl) (by kernel_rfl) (by kernel_rfl) (by kernel_rfl) rfl (yo_on rfl rfl (yo_load hT rfl rfl (fun w' hS => Ex.cell hS hcell))) ?_
        refine rw_takeP 10 rfl rfl (by kernel_rfl) (by kernel_rfl) (by kernel_rfl) (by kernel_rfl) rfl (yo_on rfl rfl (yo_index hT rfl rfl rfl ((whichN a)[j]) rfl hk3)) ?_
        (refine rw_takeP 11 rfl rfl (by kernel_rfl) (by kernel_rfl) (by kernel_rfl) (by kernel_rfl) rfl (yo_on rfl rfl (yo_pure hT rfl)) ?_)
        refine rw_take 12 rfl rfl (by kernel_rfl) (by kernel_rfl) (by kernel_rfl) (by kernel_rfl) rfl (yo_on rfl rfl (yo_load hT rfl rfl (v := .int .i64 (papAt x (whichN a)[j]).state) (fun w' hS => Ex.cell hS (hprd 0 _ rfl)))) ?_
        (refine rw_takeP 13 rfl rfl (by kernel_rfl) (by kernel_rfl) (by kernel_rfl) (by kernel_rfl) rfl (yo_on rfl rfl (yo_pure hT rfl)) ?_; refine rw_takeP 14 rfl rfl (by kernel_rfl) (by kernel_rfl) (by kernel_rfl) (by kernel_rfl) rfl (yo_on rfl rfl (yo_pure hT rfl)) ?_)
        (refine rw_takeP 15 rfl rfl (by kernel_rfl) (by kernel_rfl) (by kernel_rfl) (by kernel_rfl) rfl (yo_pure hT rfl) ?_)
        refine rw_done (by kernel_rfl) ?_
        (repeat (refine qw_then ?_))
        refine cw_cond rfl (fun h9 => ?_) (fun h9 => ?_)
        · (repeat (first | refine lw_pure hT rfl ?_ | refine lw_nil ?_ | refine cw_seq ?_ | refine cw_region ?_ | refine qw_then ?_ | refine cw_ret ?_ | refine qw_then_ret ?_ | refine qw_block_ret ?_))
          exact qw_ret rfl ⟨by rw [hit (by rw [h8, h9]; rfl)]; rfl, (hx04.trans hx5).trans hx6⟩
        · (repeat (first | (refine lw_add rfl rfl ?_ ?_ ?_; iterate 2 omega) | refine lw_pure hT rfl ?_ | refine lw_nil ?_ | refine cw_region ?_ | refine qw_then ?_ | refine cw_skip ?_ | refine qw_block ?_))
          exact qw_round (j + 1) (by repeat (first | exact trivial | refine ⟨rfl, ?_⟩)) ⟨hx5.trans hx6, hlt, step (by rw [h8, h9]; rfl)⟩ (by omega)
    · have : j = (whichN a).length := by have := of_decide_eq_false h; omega
      subst this
      have q2 : (whichN a).any (fun k => decide (x.state ≠ 0) || decide ((papAt x k).state ≠ stW a)) = false := by
        rw [List.any_eq_false]
        intro k hkm
        obtain ⟨j', hj', rfl⟩ := List.getElem_of_mem hkm
        rw [hno j' hj' hj']; decide
      -- the second: their holders
      (repeat (first | refine lw_pure hT rfl ?_ | refine lw_nil ?_ | refine cw_seq ?_ | refine cw_region ?_ | refine qw_then ?_ | refine cw_block ?_ | refine cw_exit ?_ | refine qw_block_exit ?_ | refine qw_then_exit ?_))
      refine cw_loop (fun j : Nat => [(3, .pointer (some ⟨b3, 0, none⟩)), (6, .pointer (some ⟨b6, 0, none⟩)), (7, .slice (some ⟨bw, ow, none⟩) (whichN a).length vcap), (10, .int .i64 (j : Nat))])
        (fun j w' => Ex w4 w' ∧ j ≤ (whichN a).length ∧ ∀ j' (hj : j' < (whichN a).length), j' < j → decide ((papAt x (whichN a)[j']).holder ≠ a.by_) = false) (fun j => (whichN a).length - j) 0 (by repeat (first | exact trivial | refine ⟨rfl, ?_⟩)) ⟨hx5, Nat.zero_le _, fun j' _ h => by omega⟩ ?_
      rintro j w7 ⟨hx7, hj, hno2⟩
      (repeat (first | refine lw_pure hT rfl ?_ | refine lw_nil ?_ | refine cw_seq ?_ | refine cw_region ?_ | refine qw_then ?_))
      refine cw_cond rfl (fun h => ?_) (fun h => ?_)
      · have hlt : j < (whichN a).length := by have := of_decide_eq_true h; omega
        obtain ⟨hk3, hcell⟩ := get j hlt
        obtain ⟨vc, bp, op, capp, hvP, _, hprd, _, _⟩ := hE4.paper hk3
        (repeat (first | refine cw_seq ?_ | refine qw_then ?_ | refine cw_skip ?_ | refine cw_block ?_))
        refine cw_draw hM (fun w' => Ex w4 w') [] rfl rfl (by repeat with_reducible (first | refine nop_then ?_ | refine nop_block ?_ | exact nop_body)) (fun w8 hx8 _ => ⟨hx7.trans hx8, ?_⟩)
        (refine rw_takeP 0 rfl rfl (by kernel_rfl) (by kernel_rfl) (by kernel_rfl) (by kernel_rfl) rfl (yo_pure hT rfl) ?_)
        refine rw_take 1 rfl rfl (by kernel_rfl) (by kernel_rfl) (by kernel_rfl) (by kernel_rfl) rfl (yo_load hT rfl rfl (fun w' hS => Ex.cell hS ((hb6.cell 10).trans (congrArg some hvP)))) ?_
        (refine rw_takeP 2 rfl rfl (by kernel_rfl) (by kernel_rfl) (by kernel_rfl) (by kernel_rfl) rfl (yo_pure hT rfl) ?_; refine rw_takeP 3 rfl rfl (by kernel_rfl) (by kernel_rfl) (by kernel_rfl) (by kernel_rfl) rfl (yo_pure hT rfl) ?_)
        refine rw_takeP 4 rfl rfl (by kernel_rfl) (by kernel_rfl) (by kernel_rfl) (by kernel_rfl) rfl (yo_index hT rfl rfl rfl j rfl hlt) ?_
        refine rw_take 5 rfl rfl (by kernel_rfl) (by kernel_rfl) (by kernel_rfl) (by kernel_rfl) rfl (yo_load hT rfl rfl (fun w' hS => Ex.cell hS hcell)) ?_
        refine rw_takeP 6 rfl rfl (by kernel_rfl) (by kernel_rfl) (by kernel_rfl) (by kernel_rfl) rfl (yo_index hT rfl rfl rfl ((whichN a)[j]) rfl hk3) ?_
        (refine rw_takeP 7 rfl rfl (by kernel_rfl) (by kernel_rfl) (by kernel_rfl) (by kernel_rfl) rfl (yo_pure hT rfl) ?_)
        refine rw_take 8 rfl rfl (by kernel_rfl) (by kernel_rfl) (by kernel_rfl) (by kernel_rfl) rfl (yo_load hT rfl rfl (v := .string (papAt x (whichN a)[j]).holder) (fun w' hS => Ex.cell hS (hprd 1 _ rfl))) ?_
        (refine rw_takeP 9 rfl rfl (by kernel_rfl) (by kernel_rfl) (by kernel_rfl) (by kernel_rfl) rfl (yo_pure hT rfl) ?_)
        refine rw_take 10 rfl rfl (by kernel_rfl) (by kernel_rfl) (by kernel_rfl) (by kernel_rfl) rfl (yo_load hT rfl rfl (v := .string a.by_) (fun w' hS => Ex.cell hS (hb34.cell 4))) ?_
        (refine rw_takeP 11 rfl rfl (by kernel_rfl) (by kernel_rfl) (by kernel_rfl) (by kernel_rfl) rfl (yo_pure hT rfl) ?_)
        refine rw_done (by kernel_rfl) ?_
        (repeat (refine qw_then ?_))
        refine cw_cond rfl (fun h9 => ?_) (fun h9 => ?_)
        · (repeat (first | refine lw_pure hT rfl ?_ | refine lw_nil ?_ | refine cw_seq ?_ | refine cw_region ?_ | refine qw_then ?_ | refine cw_ret ?_ | refine qw_then_ret ?_ | refine qw_block_ret ?_))
          refine qw_ret rfl ⟨?_, (hx04.trans hx7).trans hx8⟩
          have : wrongE x a = 8 := by unfold wrongE; rw [hb, hba, q2, if_pos (List.any_eq_true.2 ⟨_, List.getElem_mem hlt, h9⟩)]; rfl
          rw [this]; rfl
        · (repeat (first | (refine lw_add rfl rfl ?_ ?_ ?_; iterate 2 omega) | refine lw_pure hT rfl ?_ | refine lw_nil ?_ | refine cw_region ?_ | refine qw_then ?_ | refine cw_skip ?_ | refine qw_block ?_))
          refine qw_round (j + 1) (by repeat (first | exact trivial | refine ⟨rfl, ?_⟩)) ⟨hx7.trans hx8, hlt, fun j' hj' hjj => ?_⟩ (by omega)
          by_cases e : j' = j
          · subst e; exact h9
          · exact hno2 j' hj' (by omega)
      · have : j = (whichN a).length := by have := of_decide_eq_false h; omega
        subst this
        have q3 : (whichN a).any (fun k => decide ((papAt x k).holder ≠ a.by_)) = false := by
          rw [List.any_eq_false]
          intro k hkm
          obtain ⟨j', hj', rfl⟩ := List.getElem_of_mem hkm
          rw [hno2 j' hj' hj']; decide
        -- the third: their days
        (repeat (first | refine lw_pure hT rfl ?_ | refine lw_nil ?_ | refine cw_seq ?_ | refine cw_region ?_ | refine qw_then ?_ | refine cw_block ?_ | refine cw_exit ?_ | refine qw_block_exit ?_ | refine qw_then_exit ?_))
        refine cw_loop (fun j : Nat => [(3, .pointer (some ⟨b3, 0, none⟩)), (6, .pointer (some ⟨b6, 0, none⟩)), (7, .slice (some ⟨bw, ow, none⟩) (whichN a).length vcap), (11, .int .i64 (j : Nat))])
          (fun j w' => Ex w4 w' ∧ j ≤ (whichN a).length ∧ ∀ j' (hj : j' < (whichN a).length), j' < j → (decide (a.kind ≠ 3) && decide (a.day < untilD x.bill (papAt x (whichN a)[j']))) = false) (fun j => (whichN a).length - j) 0 (by repeat (first | exact trivial | refine ⟨rfl, ?_⟩)) ⟨hx7, Nat.zero_le _, fun j' _ h => by omega⟩ ?_
        rintro j w9 ⟨hx9, hj, hno3⟩
        (repeat (first | refine lw_pure hT rfl ?_ | refine lw_nil ?_ | refine cw_seq ?_ | refine cw_region ?_ | refine qw_then ?_))
        refine cw_cond rfl (fun h => ?_) (fun h => ?_)
        · have hlt : j < (whichN a).length := by have := of_decide_eq_true h; omega
          obtain ⟨hk3, hcell⟩ := get j hlt
          have step : (decide (a.kind ≠ 3) && decide (a.day < untilD x.bill (papAt x (whichN a)[j]))) = false → ∀ j' (hj : j' < (whichN a).length), j' < j + 1 → (decide (a.kind ≠ 3) && decide (a.day < untilD x.bill (papAt x (whichN a)[j']))) = false := by
            intro h' j' hj' hjj
            by_cases e : j' = j
            · subst e; exact h'
            · exact hno3 j' hj' (by omega)
          (repeat (first | refine cw_seq ?_ | refine qw_then ?_ | refine cw_skip ?_ | refine cw_block ?_))
          refine cw_draw hM (fun w' => Ex w4 w') [] rfl rfl (by repeat with_reducible (first | refine nop_then ?_ | refine nop_block ?_ | exact nop_body)) (fun w10 hx10 _ => ⟨hx9.trans hx10, ?_⟩)
          (refine rw_takeP 0 rfl rfl (by kernel_rfl) (by kernel_rfl) (by kernel_rfl) (by kernel_rfl) rfl (yo_pure hT rfl) ?_)
          refine rw_take 1 rfl rfl (by kernel_rfl) (by kernel_rfl) (by kernel_rfl) (by kernel_rfl) rfl (yo_load hT rfl rfl (v := .int .i64 a.kind) (fun w' hS => Ex.cell hS (hb34.cell 0))) ?_
          (refine rw_takeP 2 rfl rfl (by kernel_rfl) (by kernel_rfl) (by kernel_rfl) (by kernel_rfl) rfl (yo_pure hT rfl) ?_; refine rw_takeP 3 rfl rfl (by kernel_rfl) (by kernel_rfl) (by kernel_rfl) (by kernel_rfl) rfl (yo_pure hT rfl) ?_)
          refine rw_split (d := 128) rfl (fun h8 => ?_) (fun h8 => ?_)
          · (refine rw_takeP 4 rfl rfl (by kernel_rfl) (by kernel_rfl) (by kernel_rfl) (by kernel_rfl) rfl (yo_on rfl rfl (yo_pure hT rfl)) ?_)
            refine rw_take 5 rfl rfl (by kernel_rfl) (by kernel_rfl) (by kernel_rfl) (by kernel_rfl) rfl (yo_on rfl rfl (yo_load hT rfl rfl (v := .int .i64 a.day) (fun w' hS => Ex.cell hS (hb34.cell 2)))) ?_
            refine rw_take 6 rfl rfl (by kernel_rfl) (by kernel_rfl) (by kernel_rfl) (by kernel_rfl) rfl (yo_on rfl rfl (yo_load_agg hT rfl rfl rfl (vs := entF (x, g)) (fun w' hS => (hb6.ex hS).rd 0 11))) ?_
            (refine rw_takeP 7 rfl rfl (by kernel_rfl) (by kernel_rfl) (by kernel_rfl) (by kernel_rfl) rfl (yo_on rfl rfl (yo_pure hT rfl)) ?_; refine rw_takeP 8 rfl rfl (by kernel_rfl) (by kernel_rfl) (by kernel_rfl) (by kernel_rfl) rfl (yo_on rfl rfl (yo_pure hT rfl)) ?_)
            refine rw_takeP 9 rfl rfl (by kernel_rfl) (by kernel_rfl) (by kernel_rfl) (by kernel_rfl) rfl (yo_on rfl rfl (yo_index hT rfl rfl rfl j rfl hlt)) ?_
            refine rw_take 10 rfl rfl (by kernel_rfl) (by kernel_rfl) (by kernel_rfl) (by kernel_rfl) rfl (yo_on rfl rfl (yo_load hT rfl rfl (fun w' hS => Ex.cell hS hcell))) ?_
            refine rw_one 11 rfl (by kernel_rfl) rfl (fun hcl => ?_)
            (repeat (refine lw_gon_t rfl ?_ ?_; focus with_reducible (first | rfl | exact Bool.not_false | exact Bool.not_true)))
            refine lw_call hT rfl rfl (r23_until (hE4.ex (hx9.trans hx10)) hk3) ?_
            rintro _ w11 ⟨rfl, hx11⟩
            (repeat (refine lw_nil ?_))
            refine qw_rw (by repeat with_reducible (first | refine nop_then ?_ | refine nop_block ?_ | exact nop_body)) hcl (fun _ => (hx9.trans hx10).trans hx11) ?_
            (refine rw_takeP 12 rfl rfl (by kernel_rfl) (by kernel_rfl) (by kernel_rfl) (by kernel_rfl) rfl (yo_on rfl rfl (yo_pure hT rfl)) ?_)
            (refine rw_takeP 13 rfl rfl (by kernel_rfl) (by kernel_rfl) (by kernel_rfl) (by kernel_rfl) rfl (yo_pure hT rfl) ?_)
            refine rw_done (by kernel_rfl) ?_
            (repeat (refine qw_then ?_))
            refine cw_cond rfl (fun h9 => ?_) (fun h9 => ?_)
            · (repeat (first | refine lw_pure hT rfl ?_ | refine lw_nil ?_ | refine cw_seq ?_ | refine cw_region ?_ | refine qw_then ?_ | refine cw_ret ?_ | refine qw_then_ret ?_ | refine qw_block_ret ?_))
              refine qw_ret rfl ⟨?_, ((hx04.trans hx9).trans hx10).trans hx11⟩
              have : wrongE x a = 6 := by unfold wrongE; rw [hb, hba, q2, q3, if_pos (List.any_eq_true.2 ⟨_, List.getElem_mem hlt, by rw [h8, h9]; rfl⟩)]; rfl
              rw [this]; rfl
            · (repeat (first | (refine lw_add rfl rfl ?_ ?_ ?_; iterate 2 omega) | refine lw_pure hT rfl ?_ | refine lw_nil ?_ | refine cw_region ?_ | refine qw_then ?_ | refine cw_skip ?_ | refine qw_block ?_))
              exact qw_round (j + 1) (by repeat (first | exact trivial | refine ⟨rfl, ?_⟩)) ⟨(hx9.trans hx10).trans hx11, hlt, step (by rw [h9]; simp)⟩ (by omega)
          · (refine rw_takeP 4 rfl rfl (by kernel_rfl) (by kernel_rfl) (by kernel_rfl) (by kernel_rfl) rfl (yo_off rfl rfl) ?_; refine rw_takeP 5 rfl rfl (by kernel_rfl) (by kernel_rfl) (by kernel_rfl) (by kernel_rfl) rfl (yo_off rfl rfl) ?_; refine rw_takeP 6 rfl rfl (by kernel_rfl) (by kernel_rfl) (by kernel_rfl) (by kernel_rfl) rfl (yo_off rfl rfl) ?_; refine rw_takeP 7 rfl rfl (by kernel_rfl) (by kernel_rfl) (by kernel_rfl) (by kernel_rfl) rfl (yo_off rfl rfl) ?_; refine rw_takeP 8 rfl rfl (by kernel_rfl) (by kernel_rfl) (by kernel_rfl) (by kernel_rfl) rfl (yo_off rfl rfl) ?_; refine rw_takeP 9 rfl rfl (by kernel_rfl) (by kernel_rfl) (by kernel_rfl) (by kernel_rfl) rfl (yo_off rfl rfl) ?_; refine rw_takeP 10 rfl rfl (by kernel_rfl) (by kernel_rfl) (by kernel_rfl) (by kernel_rfl) rfl (yo_off rfl rfl) ?_; refine rw_takeP 11 rfl rfl (by kernel_rfl) (by kernel_rfl) (by kernel_rfl) (by kernel_rfl) rfl (yo_off rfl rfl) ?_; refine rw_takeP 12 rfl rfl (by kernel_rfl) (by kernel_rfl) (by kernel_rfl) (by kernel_rfl) rfl (yo_off rfl rfl) ?_)
            (refine rw_takeP 13 rfl rfl (by kernel_rfl) (by kernel_rfl) (by kernel_rfl) (by kernel_rfl) rfl (yo_pure hT rfl) ?_)
            refine rw_done (by kernel_rfl) ?_
            (repeat (first | (refine lw_add rfl rfl ?_ ?_ ?_; iterate 2 omega) | refine lw_pure hT rfl ?_ | refine lw_nil ?_ | refine cw_region ?_ | refine qw_then ?_ | refine cw_skip ?_ | refine qw_block ?_ | (refine cw_cond_f rfl ?_ ?_; focus with_reducible (first | rfl | exact Bool.not_false | exact Bool.not_true))))
            exact qw_round (j + 1) (by repeat (first | exact trivial | refine ⟨rfl, ?_⟩)) ⟨hx9.trans hx10, hlt, step (by rw [h8]; rfl)⟩ (by omega)
        · have : j = (whichN a).length := by have := of_decide_eq_false h; omega
          subst this
          have q4 : (whichN a).any (fun k => decide (a.kind ≠ 3) && decide (a.day < untilD x.bill (papAt x k))) = false := by
            rw [List.any_eq_false]
            intro k hkm
            obtain ⟨j', hj', rfl⟩ := List.getElem_of_mem hkm
            rw [hno3 j' hj' hj']; decide
          (repeat (first | refine lw_pure hT rfl ?_ | refine lw_nil ?_ | refine cw_seq ?_ | refine cw_region ?_ | refine qw_then ?_ | refine cw_ret ?_ | refine cw_exit ?_ | refine qw_block_exit ?_ | refine qw_then_exit ?_))
          refine qw_ret rfl ⟨?_, hx04.trans hx9⟩
          have : wrongE x a = 0 := by unfold wrongE; rw [hb, hba, q2, q3, q4]; rfl
          rw [this]; rfl
end Go.Proofs.YtnglkhnfmbnfeaaGreat
namespace Go.Proofs.YtnglkhnfmbnfeaaGreat
open Go Go.SK
theorem _root_.Go.SK.Sl.lt {A : Nat → Prop} {w : World} {v : Value} {size : Nat} {rows : List (List Value)} (h : Sl A w v size rows) (hs : 0 < size) : Sl (fun b => A b ∧ b < w.heap.size) w v size rows := by
  obtain ⟨a, cap, hv, hz, hr⟩ := h.is
  refine ⟨⟨a, cap, hv, hz, fun hne => ?_⟩, h.small⟩
  obtain ⟨b, o, ha, hA, hrd⟩ := hr hne
  refine ⟨b, o, ha, ⟨hA, ?_⟩, hrd⟩
  have h0 : 0 < rows.length := by cases rows with
    | nil => exact absurd rfl hne
    | cons _ _ => simp
  obtain ⟨hl, hrd0⟩ := hrd 0 rows[0] (List.getElem?_eq_getElem h0)
  have h1 : 0 < rows[0].length := by omega
  exact World.block_lt_of_cell? w _ (hrd0 0 rows[0][0] (List.getElem?_eq_getElem h1))
theorem FEnt.lt {A : Nat → Prop} {w : World} {x : EntD} {g : FG} (h : FEnt A w x g) : FEnt (fun b => A b ∧ b < w.heap.size) w x g :=
  ⟨h.boxes.lt (by decide), h.parents.lt (by decide), h.three, h.three', h.papers.lt (by decide), fun i q vc h1 h2 => (h.chains i q vc h1 h2).lt (by decide), h.bcap⟩
theorem FRep.lt {A : Nat → Prop} {w : World} {vL : Value} {l : List EntD} {gs : List FG} (h : FRep A w vL l gs) : FRep (fun b => A b ∧ b < w.heap.size) w vL l gs :=
  ⟨h.len, h.cap, h.sl.lt (by decide), fun i x g h1 h2 => (h.ents i x g h1 h2).lt⟩
def rowsOf (ps : List PapD) (vcs : List Value) : List (List Value) := (ps.zip vcs).map papRow
theorem set_row {ps : List PapD} {vcs tail : List Value} (h1 : ps.length = 3) (h2 : vcs.length = 3) {k : Nat} (hk : k < 3) (q : PapD) (vc : Value) :
    setMany ((rowsOf ps vcs).flatten ++ tail) (k * 3) [.int .i64 q.state, .string q.holder, vc] = (rowsOf (ps.set k q) (vcs.set k vc)).flatten ++ tail := by
  obtain ⟨a, b, c, rfl⟩ := three_cases h1
  obtain ⟨u, v, y, rfl⟩ := three_cases h2
  match k, hk with
  | 0, _ => rfl
  | 1, _ => rfl
  | 2, _ => rfl
theorem set_st {ps : List PapD} {vcs tail : List Value} (h1 : ps.length = 3) (h2 : vcs.length = 3) {k : Nat} (hk : k < 3) (s : Int) :
    ((rowsOf ps vcs).flatten ++ tail).set (k * 3) (.int .i64 s) = (rowsOf (onIx [k] (stateP s) ps) vcs).flatten ++ tail := by
  obtain ⟨a, b, c, rfl⟩ := three_cases h1
  obtain ⟨u, v, y, rfl⟩ := three_cases h2
  match k, hk with
  | 0, _ => rfl
  | 1, _ => rfl
  | 2, _ => rfl
theorem row_take {ps : List PapD} {vcs tail : List Value} (h1 : ps.length = 3) (h2 : vcs.length = 3) {k : Nat} (hk : k < 3) {q : PapD} {vc : Value} (hq : ps[k]? = some q) (hv : vcs[k]? = some vc) :
    (((rowsOf ps vcs).flatten ++ tail).drop (k * 3)).take 3 = [.int .i64 q.state, .string q.holder, vc] := by
  obtain ⟨a, b, c, rfl⟩ := three_cases h1
  obtain ⟨u, v, y, rfl⟩ := three_cases h2
  match k, hk with
  | 0, _ => simp at hq hv; subst hq hv; rfl
  | 1, _ => simp at hq hv; subst hq hv; rfl
  | 2, _ => simp at hq hv; subst hq hv; rfl
theorem rows_len {ps : List PapD} {vcs tail : List Value} (h1 : ps.length = 3) (h2 : vcs.length = 3) : ((rowsOf ps vcs).flatten ++ tail).length = 9 + tail.length := by
  obtain ⟨a, b, c, rfl⟩ := three_cases h1
  obtain ⟨u, v, y, rfl⟩ := three_cases h2
  simp [rowsOf, papRow]; omega
theorem onIx_set {ps : List PapD} (h1 : ps.length = 3) {k : Nat} (hk : k < 3) {q : PapD} (hq : ps[k]? = some q) (f : PapD → PapD) : onIx [k] f ps = ps.set k (f q) := by
  obtain ⟨a, b, c, rfl⟩ := three_cases h1
  match k, hk with
  | 0, _ => simp at hq; subst hq; rfl
  | 1, _ => simp at hq; subst hq; rfl
  | 2, _ => simp at hq; subst hq; rfl
def fD (a : ActD) : PapD → PapD := if a.kind = 1 then endorseP a.by_ a.to_ a.day else if a.kind = 3 then stateP 3 else if a.kind = 4 then stateP 0 else id
structure PapsAt (A : Nat → Prop) (w : World) (bq : Nat) (ps : List PapD) (vcs tail : List Value) : Prop where
  three : ps.length = 3
  three' : vcs.length = 3
  blk : Blk w bq ((rowsOf ps vcs).flatten ++ tail) 126
  chains : ∀ (i : Nat) (q : PapD) (vc : Value), ps[i]? = some q → vcs[i]? = some vc → SlE A w vc q.chain
theorem PapsAt.sl {A : Nat → Prop} {w : World} {bq cap : Nat} {ps : List PapD} {vcs tail : List Value} (h : PapsAt A w bq ps vcs tail) {B : Nat → Prop} (hB : B bq) : Sl B w (.slice (some ⟨bq, 0, none⟩) 3 cap) 3 ((ps.zip vcs).map papRow) := by
  have h1 : ((ps.zip vcs).map papRow).length = 3 := by simp [h.three, h.three']
  have := Sl.of_rd (A := B) (w := w) (b := bq) (o := 0) (cap := cap) (size := 3) (rows := (ps.zip vcs).map papRow) hB (by intro r hr; obtain ⟨x, _, rfl⟩ := List.mem_map.1 hr; rfl) (by
    have := h.blk.rd 0 9
    rw [List.drop_zero] at this
    have e : ((rowsOf ps vcs).flatten ++ tail).take 9 = ((ps.zip vcs).map papRow).flatten := by
      obtain ⟨a, b, c, rfl⟩ := three_cases h.three
      obtain ⟨u, v, y, rfl⟩ := three_cases h.three'
      rfl
    rwa [e] at this) (by rw [h1]; simp [maxLen])
  rwa [h1] at this
theorem _root_.Go.SK.Sl.cutTo {A : Nat → Prop} {w : World} {b o n c size i : Nat} {rows : List (List Value)} (h : Sl A w (.slice (some ⟨b, o, none⟩) n c) size rows) (hi : i ≤ rows.length) :
    Sl A w (.slice (if c = 0 then some ⟨b, o, none⟩ else (some (⟨b, o, none⟩ : Addr)).map (·.add (0 * size))) (i - 0) (c - 0)) size (rows.take i) := by
  have e : (if c = 0 then some (⟨b, o, none⟩ : Addr) else (some (⟨b, o, none⟩ : Addr)).map (·.add (0 * size))) = some ⟨b, o, none⟩ := by split <;> simp [addr_add]
  rw [e]
  obtain ⟨a, cap, hv, hz, hr⟩ := h.is
  have hl : (rows.take i).length = i - 0 := by simp; omega
  refine ⟨⟨some ⟨b, o, none⟩, c - 0, by rw [hl], (fun h => by cases h), fun hne => ?_⟩, by rw [hl]; have := h.small; omega⟩
  have hne' : rows ≠ [] := by rintro rfl; simp at hne
  obtain ⟨b', o', ha, hA, hrd⟩ := hr hne'
  simp only [Value.slice.injEq] at hv
  have e2 := hv.1.trans ha
  simp only [Option.some.injEq, Addr.mk.injEq, and_true] at e2
  obtain ⟨rfl, rfl⟩ := e2
  refine ⟨b, o, rfl, hA, fun j row hj => hrd j row ?_⟩
  rw [List.getElem?_take] at hj
  split at hj
  · exact hj
  · cases hj
theorem _root_.Go.SK.Sl.cutFrom {A : Nat → Prop} {w : World} {b o n c size i m : Nat} {rows : List (List Value)} (h : Sl A w (.slice (some ⟨b, o, none⟩) n c) size rows) (hi : i ≤ rows.length) (hm : m = rows.length - i) (hc : n ≤ c) :
    Sl A w (.slice (if c = i then some ⟨b, o, none⟩ else (some (⟨b, o, none⟩ : Addr)).map (·.add (i * size))) m (c - i)) size (rows.drop i) := by
  obtain ⟨a, cap, hv, hz, hr⟩ := h.is
  simp only [Value.slice.injEq] at hv
  have hl : (rows.drop i).length = m := by simp; omega
  refine ⟨⟨_, c - i, by rw [hl], (fun h => by split at h <;> cases h), fun hne => ?_⟩, by rw [hl]; have := h.small; omega⟩
  have hlt : i < rows.length := by
    rcases Nat.lt_or_ge i rows.length with h | h
    · exact h
    · exact absurd (List.drop_eq_nil_of_le h) hne
  have hne' : rows ≠ [] := by rintro rfl; simp at hlt
  obtain ⟨b', o', ha, hA, hrd⟩ := hr hne'
  have e2 := hv.1.trans ha
  simp only [Option.some.injEq, Addr.mk.injEq, and_true] at e2
  obtain ⟨rfl, rfl⟩ := e2
  rw [if_neg (by omega)]
  refine ⟨b, o + i * size, by simp [addr_add], hA, fun j row hj => ?_⟩
  rw [List.getElem?_drop] at hj
  obtain ⟨h1, h2⟩ := hrd (i + j) row hj
  refine ⟨h1, ?_⟩
  rwa [Nat.add_mul, ← Nat.add_assoc] at h2
theorem zip_set {α β : Type} : ∀ (l : List α) (r : List β) (i : Nat) (x : α) (y : β), (l.set i x).zip (r.set i y) = (l.zip r).set i (x, y)
  | [], _, _, _, _ => by simp
  | _ :: _, [], i, _, _ => by cases i <;> simp
  | a :: l, b :: r, 0, _, _ => by simp
  | a :: l, b :: r, i + 1, x, y => by simp [zip_set l r i x y]
theorem FRep.of_own {A : Nat → Prop} {w : World} {vL : Value} {l : List EntD} {gs : List FG} (hl : l.length = gs.length) {base te : Nat} (ho : w.ownsRow base te 11 vL l.length ((l.zip gs).map entF).flatten) (hA : ∀ b, vL.ownBlock = some b → A b)
    (he : ∀ (i : Nat) (x : EntD) (g : FG), l[i]? = some x → gs[i]? = some g → FEnt A w x g) : FRep A w vL l gs := by
  refine ⟨hl, own_cap ho, own_sl (base := base) (e := te) (rows := (l.zip gs).map entF) ?_ (fun r hr => FRep.len11 r hr) hA, he⟩
  have : ((l.zip gs).map entF).length = l.length := by simp [hl]
  rw [this]; exact ho
theorem FRep.changed {A : Nat → Prop} {w : World} {vL : Value} {l : List EntD} {gs : List FG} (hl : l.length = gs.length) {i : Nat} (hi : i < l.length) {x : EntD} {g : FG} {base te : Nat}
    (ho : w.ownsRow base te 11 vL (i + 1 + (l.length - (i + 1))) (((((l.zip gs).map entF).take i).flatten ++ entF (x, g)) ++ (((l.zip gs).map entF).drop (i + 1)).flatten)) (hA : ∀ b, vL.ownBlock = some b → A b)
    (hold : ∀ (j : Nat) (y : EntD) (u : FG), j ≠ i → l[j]? = some y → gs[j]? = some u → FEnt A w y u) (hx : FEnt A w x g) : FRep A w vL (l.set i x) (gs.set i g) := by
  refine FRep.of_own (by simp [hl]) (base := base) (te := te) ?_ hA ?_
  · rw [zip_set, List.map_set, List.length_set]
    have hz : i < ((l.zip gs).map entF).length := by simp [← hl]; exact hi
    rw [List.set_eq_take_append_cons_drop, if_pos hz]
    have e : i + 1 + (l.length - (i + 1)) = l.length := by omega
    rw [e] at ho
    simpa using ho
  · intro j y u hy hu
    by_cases e : i = j
    · subst e
      rw [List.getElem?_set_self hi] at hy
      rw [List.getElem?_set_self (by rw [← hl]; exact hi)] at hu
      cases hy; cases hu; exact hx
    · rw [List.getElem?_set_ne e] at hy hu
      exact hold j y u (fun h => e h.symm) hy hu
def midP (a : ActD) (ps : List PapD) : List PapD := if a.kind = 2 ∨ a.kind = 5 then ps.map (stateP 2) else ps
def midS (a : ActD) (st : Int) : Int := if a.kind = 2 ∨ a.kind = 5 then 4 else st
def finP (a : ActD) (ps : List PapD) : List PapD := if a.kind = 2 then onIx (whichN a) (stateP 1) ps else ps
def finS (a : ActD) (st : Int) : Int := if a.kind = 2 then 1 else st
theorem onIx_id (l : List Nat) (ps : List PapD) : onIx l id ps = ps := by
  apply List.ext_getElem?
  intro i
  cases h : ps[i]? with
  | none =>
    rw [List.getElem?_eq_none_iff] at h ⊢
    rw [onIx_len]; exact h
  | some q => rw [onIx_get h]; simp
theorem after_eq {x : EntD} {a : ActD} (hk : 1 ≤ a.kind ∧ a.kind ≤ 5) (eI : whichN a = ixs a.ask.index) (eN : whichN a ≠ []) :
    x.after a = { x with state := finS a (midS a x.state), ps := finP a (midP a (onIx (whichN a) (fD a) x.ps)) } := by
  have hks : a.kind = 1 ∨ a.kind = 2 ∨ a.kind = 3 ∨ a.kind = 4 ∨ a.kind = 5 := by omega
  have one : ixs (oneI a.index) ≠ [] → ixs (oneI a.index) = ixs a.index := fun h => by obtain ⟨k, _, h1, h2⟩ := ixs_one h; rw [h1, h2]
  rw [eI] at eN ⊢
  rcases hks with h | h | h | h | h
  · simp [EntD.after, finS, midS, finP, midP, fD, h, ActD.ask]
  · have e : whichN a = ixs a.index := by rw [eI]; simp only [ActD.ask, h] at eN ⊢; exact one eN
    simp [EntD.after, finS, midS, finP, midP, fD, h, onIx_id, e]
  · simp only [ActD.ask, h] at eN ⊢
    simp [EntD.after, finS, midS, finP, midP, fD, h, one (by simpa using eN)]
  · simp only [ActD.ask, h] at eN ⊢
    simp [EntD.after, finS, midS, finP, midP, fD, h, one (by simpa using eN)]
  · simp [EntD.after, finS, midS, finP, midP, fD, h, onIx_id]
theorem upd_set' {r : RegD} {n : ByteArray} {i : Nat} {x : EntD} (hl : r.l[i]? = some x) (hn : n = x.bill.number) (hN : r.Nd) (f : EntD → EntD) : (r.upd n f).l = r.l.set i (f x) := by
  apply List.ext_getElem?
  intro j
  simp only [RegD.upd, List.getElem?_map, List.getElem?_set]
  by_cases e : i = j
  · subst e
    have hlt := (List.getElem?_eq_some_iff.1 hl).1
    have e : r.l[i] = x := by rw [List.getElem?_eq_getElem hlt] at hl; exact Option.some.inj hl
    simp [hlt, hn, e]
  · rw [if_neg e]
    cases hj : r.l[j]? with
    | none => rfl
    | some y =>
      have : n ≠ y.bill.number := fun h => e (hN i j x y hl hj (hn ▸ h))
      simp [this]
end Go.Proofs.YtnglkhnfmbnfeaaGreat
namespace Go.Proofs.YtnglkhnfmbnfeaaGreat
open Go Go.SK
def isDone (q : PapD) : Bool := decide (q.state = 1)
def StOk (e : EntD) : Prop :=
  (e.state = 0 ∧ ∀ q ∈ e.ps, q.state = 0 ∨ q.state = 3) ∨ (e.state = 1 ∧ (e.ps.filter isDone).length = 1 ∧ ∀ q ∈ e.ps, q.state = 1 ∨ q.state = 2) ∨ (e.state = 4 ∧ ∀ q ∈ e.ps, q.state = 2)
structure EntG (k : Nat) (c : ByteArray) (e : EntD) : Prop where
  three : e.ps.length = 3
  pap : ∀ q ∈ e.ps, PapInv q
  chain : ∀ q ∈ e.ps, q.chain.length ≤ k
  may : mayB c e.bill = true
  ok : e.bill.Ok
  st : StOk e
structure Good (k : Nat) (r : RegD) : Prop where
  nd : r.Nd
  len : r.l.length ≤ k
  ent : ∀ e ∈ r.l, EntG k r.carrier e
  box : ∀ (i j : Nat) (x y : EntD) (b : ByteArray), r.l[i]? = some x → r.l[j]? = some y → x.state = 0 → y.state = 0 → b ∈ x.bill.boxes → b ∈ y.bill.boxes → i = j
theorem may_len {c : ByteArray} {b : BillD} (h : mayB c b = true) : b.boxes.length ≤ 64 ∧ b.parents.length ≤ 64 ∧ onceB b.boxes = true ∧ nameB b.number = true := by
  simp only [mayB, Bool.and_eq_true, decide_eq_true_eq] at h
  obtain ⟨⟨⟨⟨h1, _⟩, _⟩, _⟩, _, ⟨⟨_, h2⟩, _, h3⟩, h4, _⟩ := h
  exact ⟨h3, h4, h2, h1⟩
theorem EntG.mono {k k' : Nat} {c : ByteArray} {e : EntD} (h : EntG k c e) (hk : k ≤ k') : EntG k' c e := ⟨h.three, h.pap, fun q hq => Nat.le_trans (h.chain q hq) hk, h.may, h.ok, h.st⟩
theorem Good.mono {k k' : Nat} {r : RegD} (h : Good k r) (hk : k ≤ k') : Good k' r := ⟨h.nd, Nat.le_trans h.len hk, fun e he => (h.ent e he).mono hk, h.box⟩
theorem Good.small {k : Nat} {r : RegD} (h : Good k r) (hk : k ≤ 1000000) : r.Small := fun e he => by
  have hE := h.ent e he
  have := may_len hE.may
  exact ⟨fun q hq => Nat.le_trans (hE.chain q hq) hk, by omega, by omega⟩
theorem Good.inv {k : Nat} {r : RegD} (h : Good k r) : ∀ e ∈ r.l, ∀ q ∈ e.ps, PapInv q := fun e he => (h.ent e he).pap
theorem good_new (c : ByteArray) : Good 0 ⟨c, []⟩ := ⟨fun i j x y h => by simp at h, Nat.le_refl _, fun e he => by simp at he, fun i j x y b h => by simp at h⟩
theorem onIx_mem {l : List Nat} {f : PapD → PapD} {ps : List PapD} {q' : PapD} (h : q' ∈ onIx l f ps) : ∃ (i : Nat) (q : PapD), ps[i]? = some q ∧ q' = if l.contains i then f q else q := by
  obtain ⟨i, hi⟩ := List.getElem?_of_mem h
  have hlt : i < ps.length := by have := (List.getElem?_eq_some_iff.1 hi).1; rwa [onIx_len] at this
  have hq := List.getElem?_eq_getElem hlt
  refine ⟨i, ps[i], hq, ?_⟩
  rw [onIx_get hq] at hi
  exact (Option.some.inj hi).symm
theorem PapInv.state {q : PapD} (h : PapInv q) (s : Int) : PapInv (stateP s q) := ⟨h.name, h.size, h.ok, h.go, h.fname, h.fsize⟩
theorem papAt_of {x : EntD} {i : Nat} {q : PapD} (h : x.ps[i]? = some q) : papAt x i = q := by simp [papAt, h]
theorem fil_one {ps : List PapD} (h : ps.length = 3) {k : Nat} (hk : k < 3) : ((onIx [k] (stateP 1) (ps.map (stateP 2))).filter isDone).length = 1 := by
  obtain ⟨a, b, c, rfl⟩ := three_cases h
  match k, hk with
  | 0, _ => rfl
  | 1, _ => rfl
  | 2, _ => rfl
theorem after_bill (e : EntD) (a : ActD) : (e.after a).bill = e.bill := by
  unfold EntD.after; repeat' split
  all_goals rfl
theorem after_good {k : Nat} {c : ByteArray} {e : EntD} {a : ActD} (h : EntG k c e) (hk : 1 ≤ a.kind ∧ a.kind ≤ 5) (hask : askE e a.ask = 0) (hto : a.to_.size ≤ maxLen) : EntG (k + 1) c (e.after a) := by
  obtain ⟨h1, h2, h3, h4, h5⟩ := ask_ok hask
  have hst : ∀ q ∈ e.ps, q.state = 0 ∨ q.state = 3 := by
    rcases h.st with h' | h' | h'
    · exact h'.2
    · rw [h2] at h'; cases h'.1
    · rw [h2] at h'; cases h'.1
  have one : ixs (oneI a.index) ≠ [] → ∃ k : Nat, k < 3 ∧ ixs a.index = [k] := fun h => by obtain ⟨k, h3, _, h2⟩ := ixs_one h; exact ⟨k, h3, h2⟩
  have hks : a.kind = 1 ∨ a.kind = 2 ∨ a.kind = 3 ∨ a.kind = 4 ∨ a.kind = 5 := by omega
  rcases hks with hk | hk | hk | hk | hk
  · have ea : e.after a = { e with ps := onIx (ixs a.index) (endorseP a.by_ a.to_ a.day) e.ps } := by simp [EntD.after, hk]
    have eask : a.ask = ⟨a.bill, a.by_, a.index, 0, true, a.day, a.to_, true⟩ := by simp [ActD.ask, hk]
    rw [eask] at h1 h3 h4 h5
    obtain ⟨h6, h7⟩ := h5 rfl
    obtain ⟨h8, h9⟩ := h4 rfl
    rw [ea]
    have key : ∀ q' ∈ onIx (ixs a.index) (endorseP a.by_ a.to_ a.day) e.ps, PapInv q' ∧ q'.chain.length ≤ k + 1 ∧ (q'.state = 0 ∨ q'.state = 3) := by
      intro q' hq'
      obtain ⟨i, q, hi, rfl⟩ := onIx_mem hq'
      have hq := List.mem_of_getElem? hi
      split
      · next hc =>
        have hc : i ∈ ixs a.index := by simpa using hc
        have ep := papAt_of hi
        have h3' := h3 i hc
        have h9' := h9 i hc
        rw [ep] at h3' h9'
        refine ⟨(endorse_inv (h.pap q hq) h3'.2.symm h6 h7 h8 h9' hto).1, ?_, hst q hq⟩
        have := h.chain q hq
        simp [endorseP]; exact this
      · exact ⟨h.pap q hq, Nat.le_succ_of_le (h.chain q hq), hst q hq⟩
    exact ⟨by rw [← h.three]; exact onIx_len _ _ _, fun q hq => (key q hq).1, fun q hq => (key q hq).2.1, h.may, h.ok, .inl ⟨h2, fun q hq => (key q hq).2.2⟩⟩
  · have eask : a.ask.index = oneI a.index := by simp [ActD.ask, hk]
    rw [eask] at h1
    obtain ⟨j, hj, ej⟩ := one h1
    have ea : e.after a = { e with state := 1, ps := onIx [j] (stateP 1) (e.ps.map (stateP 2)) } := by simp [EntD.after, hk, ej]
    rw [ea]
    have key : ∀ q' ∈ onIx [j] (stateP 1) (e.ps.map (stateP 2)), PapInv q' ∧ q'.chain.length ≤ k ∧ (q'.state = 1 ∨ q'.state = 2) := by
      intro q' hq'
      obtain ⟨i, q, hi, rfl⟩ := onIx_mem hq'
      rw [List.getElem?_map] at hi
      obtain ⟨q0, hq0, rfl⟩ := Option.map_eq_some_iff.1 hi
      have hq := List.mem_of_getElem? hq0
      split
      · exact ⟨((h.pap q0 hq).state 2).state 1, h.chain q0 hq, .inl rfl⟩
      · exact ⟨(h.pap q0 hq).state 2, h.chain q0 hq, .inr rfl⟩
    exact ⟨by rw [← h.three]; rw [onIx_len, List.length_map], fun q hq => (key q hq).1, fun q hq => Nat.le_succ_of_le (key q hq).2.1, h.may, h.ok, .inr (.inl ⟨rfl, fil_one h.three hj, fun q hq => (key q hq).2.2⟩)⟩
  · have ea : e.after a = { e with ps := onIx (ixs a.index) (stateP 3) e.ps } := by simp [EntD.after, hk]
    rw [ea]
    have key : ∀ q' ∈ onIx (ixs a.index) (stateP 3) e.ps, PapInv q' ∧ q'.chain.length ≤ k ∧ (q'.state = 0 ∨ q'.state = 3) := by
      intro q' hq'
      obtain ⟨i, q, hi, rfl⟩ := onIx_mem hq'
      have hq := List.mem_of_getElem? hi
      split
      · exact ⟨(h.pap q hq).state 3, h.chain q hq, .inr rfl⟩
      · exact ⟨h.pap q hq, h.chain q hq, hst q hq⟩
    exact ⟨by rw [← h.three]; exact onIx_len _ _ _, fun q hq => (key q hq).1, fun q hq => Nat.le_succ_of_le (key q hq).2.1, h.may, h.ok, .inl ⟨h2, fun q hq => (key q hq).2.2⟩⟩
  · have ea : e.after a = { e with ps := onIx (ixs a.index) (stateP 0) e.ps } := by simp [EntD.after, hk]
    rw [ea]
    have key : ∀ q' ∈ onIx (ixs a.index) (stateP 0) e.ps, PapInv q' ∧ q'.chain.length ≤ k ∧ (q'.state = 0 ∨ q'.state = 3) := by
      intro q' hq'
      obtain ⟨i, q, hi, rfl⟩ := onIx_mem hq'
      have hq := List.mem_of_getElem? hi
      split
      · exact ⟨(h.pap q hq).state 0, h.chain q hq, .inl rfl⟩
      · exact ⟨h.pap q hq, h.chain q hq, hst q hq⟩
    exact ⟨by rw [← h.three]; exact onIx_len _ _ _, fun q hq => (key q hq).1, fun q hq => Nat.le_succ_of_le (key q hq).2.1, h.may, h.ok, .inl ⟨h2, fun q hq => (key q hq).2.2⟩⟩
  · have ea : e.after a = { e with state := 4, ps := e.ps.map (stateP 2) } := by simp [EntD.after, hk]
    rw [ea]
    refine ⟨by rw [← h.three]; exact List.length_map _, fun q hq => ?_, fun q hq => ?_, h.may, h.ok, .inr (.inr ⟨rfl, fun q hq => ?_⟩)⟩ <;> obtain ⟨q0, hq0, rfl⟩ := List.mem_map.1 hq
    · exact (h.pap q0 hq0).state 2
    · exact Nat.le_succ_of_le (h.chain q0 hq0)
    · rfl
theorem at_some {r : RegD} {n : ByteArray} {x : EntD} (h : r.at? n = some x) : n = x.bill.number ∧ ∃ i : Nat, r.l[i]? = some x := by
  have h1 := List.find?_some h
  exact ⟨of_decide_eq_true h1, List.getElem?_of_mem (List.mem_of_find?_eq_some h)⟩
theorem ask_bill {a : ActD} (hk : 1 ≤ a.kind ∧ a.kind ≤ 5) : a.ask.bill = a.bill := by
  have hks : a.kind = 1 ∨ a.kind = 2 ∨ a.kind = 3 ∨ a.kind = 4 ∨ a.kind = 5 := by omega
  rcases hks with h | h | h | h | h <;> simp [ActD.ask, h]
theorem askC_ok {r : RegD} {a : ActD} (hk : 1 ≤ a.kind ∧ a.kind ≤ 5) (h : askC r a.ask = 0) : ∃ (x : EntD) (i : Nat), r.at? a.bill = some x ∧ r.l[i]? = some x ∧ a.bill = x.bill.number ∧ askE x a.ask = 0 := by
  unfold askC at h
  rw [ask_bill hk] at h
  cases hat : r.at? a.bill with
  | none => rw [hat] at h; cases h
  | some x =>
    rw [hat] at h
    obtain ⟨h1, i, h2⟩ := at_some hat
    exact ⟨x, i, rfl, h2, h1, h⟩
theorem good_issue {k : Nat} {r : RegD} {b : BillD} {holder : ByteArray} (h : Good k r) (hb : b.Ok) (hh : holder.size ≤ maxLen) : Good (k + 1) (issueD r b holder) := by
  unfold issueD
  by_cases hc : issueC r b holder = 0
  · rw [if_pos hc]
    unfold issueC at hc
    split at hc
    · cases hc
    next h1 =>
    split at hc
    · cases hc
    next h2 =>
    split at hc
    · cases hc
    next h3 =>
    simp only [Bool.or_eq_true, Bool.not_eq_true', not_or, Bool.not_eq_false] at h1
    obtain ⟨hm, hn⟩ := h1
    have hnone : r.at? b.number = none := by cases hat : r.at? b.number with
      | none => rfl
      | some x => rw [hat] at h2; simp at h2
    have hnum := at_none hnone
    have hbx : ∀ x ∈ b.boxes, ∀ e ∈ r.l, e.state = 0 → x ∉ e.bill.boxes := by
      intro x hx e he hs hmem
      refine h3 (List.any_eq_true.2 ⟨x, hx, ?_⟩)
      refine List.any_eq_true.2 ⟨e, he, ?_⟩
      simp only [EntD.has, hs, decide_true, Bool.true_and]
      exact List.any_eq_true.2 ⟨x, hmem, by simp⟩
    have hP : PapInv ⟨0, holder, []⟩ := ⟨hn, hh, fun x hx => by simp at hx, rfl, hn, hh⟩
    have get : ∀ (i : Nat) (x : EntD), (r.l ++ [newEnt b holder])[i]? = some x → (r.l[i]? = some x ∧ i < r.l.length) ∨ (i = r.l.length ∧ x = newEnt b holder) := by
      intro i x hx
      rw [List.getElem?_append] at hx
      split at hx
      · next hlt => exact .inl ⟨hx, hlt⟩
      · next hlt =>
        right
        have : i - r.l.length = 0 := by
          have := (List.getElem?_eq_some_iff.1 hx).1
          simp at this; omega
        rw [this] at hx
        simp at hx
        exact ⟨by omega, hx.symm⟩
    refine ⟨?_, by simp; exact h.len, ?_, ?_⟩
    · intro i j x y hx hy he
      rcases get i x hx with ⟨hx, hi⟩ | ⟨hi, rfl⟩ <;> rcases get j y hy with ⟨hy, hj⟩ | ⟨hj, rfl⟩
      · exact h.nd i j x y hx hy he
      · exact absurd he.symm (hnum x (List.mem_of_getElem? hx))
      · exact absurd he (hnum y (List.mem_of_getElem? hy))
      · omega
    · intro e he
      rcases List.mem_append.1 he with he | he
      · exact (h.ent e he).mono (Nat.le_succ _)
      · simp at he
        subst he
        have h3 : ∀ q ∈ (newEnt b holder).ps, q = ⟨0, holder, []⟩ := by intro q hq; simpa [newEnt] using hq
        exact ⟨rfl, fun q hq => by rw [h3 q hq]; exact hP, fun q hq => by rw [h3 q hq]; simp, hm, hb, .inl ⟨rfl, fun q hq => by rw [h3 q hq]; exact .inl rfl⟩⟩
    · intro i j x y z hx hy hsx hsy hzx hzy
      rcases get i x hx with ⟨hx, hi⟩ | ⟨hi, rfl⟩ <;> rcases get j y hy with ⟨hy, hj⟩ | ⟨hj, rfl⟩
      · exact h.box i j x y z hx hy hsx hsy hzx hzy
      · exact absurd hzx (hbx z hzy x (List.mem_of_getElem? hx) hsx)
      · exact absurd hzy (hbx z hzx y (List.mem_of_getElem? hy) hsy)
      · omega
  · rw [if_neg hc]; exact h.mono (Nat.le_succ _)
theorem good_do {k : Nat} {r : RegD} {a : ActD} (h : Good k r) (hk : 0 ≤ a.kind ∧ a.kind ≤ 5) (hb : a.b.Ok) (hto : a.to_.size ≤ maxLen) : Good (k + 1) (doA r a) := by
  unfold doA
  by_cases h0 : a.kind = 0
  · rw [if_pos h0]; exact good_issue h hb hto
  · rw [if_neg h0]
    have hk1 : 1 ≤ a.kind ∧ a.kind ≤ 5 := by omega
    by_cases hc : askC r a.ask = 0
    · rw [if_pos hc]
      obtain ⟨x, i, hat, hx, hn, hask⟩ := askC_ok hk1 hc
      have e := upd_set' hx hn h.nd (·.after a)
      have hil := (List.getElem?_eq_some_iff.1 hx).1
      have hst : x.state = 0 := (ask_ok hask).2.1
      have ec : (r.upd a.bill (·.after a)).carrier = r.carrier := rfl
      have get : ∀ (j : Nat) (y : EntD), (r.upd a.bill (·.after a)).l[j]? = some y → ∃ y0, r.l[j]? = some y0 ∧ y.bill = y0.bill ∧ (y.state = 0 → y0.state = 0) := by
        intro j y hy
        rw [e, List.getElem?_set] at hy
        by_cases hij : i = j
        · subst hij
          simp only [if_true, hil] at hy
          cases hy
          exact ⟨x, hx, after_bill _ _, fun _ => hst⟩
        · rw [if_neg hij] at hy
          exact ⟨y, hy, rfl, fun h => h⟩
      refine ⟨?_, ?_, ?_, ?_⟩
      · intro j j' y y' hy hy' he
        obtain ⟨z, hz, ez, _⟩ := get j y hy
        obtain ⟨z', hz', ez', _⟩ := get j' y' hy'
        exact h.nd j j' z z' hz hz' (by rw [← ez, ← ez']; exact he)
      · rw [e, List.length_set]; exact Nat.le_succ_of_le h.len
      · intro y hy
        rw [ec]
        rw [e] at hy
        rcases List.mem_or_eq_of_mem_set hy with hy | rfl
        · exact (h.ent y hy).mono (Nat.le_succ _)
        · exact after_good (h.ent x (List.mem_of_getElem? hx)) hk1 hask hto
      · intro j j' y y' z hy hy' hs hs' hz hz'
        obtain ⟨u, hu, eu, su⟩ := get j y hy
        obtain ⟨u', hu', eu', su'⟩ := get j' y' hy'
        exact h.box j j' u u' z hu hu' (su hs) (su' hs') (by rw [← eu]; exact hz) (by rw [← eu']; exact hz')
    · rw [if_neg hc]; exact h.mono (Nat.le_succ _)
theorem do_carrier (r : RegD) (a : ActD) : (doA r a).carrier = r.carrier := by
  unfold doA issueD
  repeat' split
  all_goals rfl
end Go.Proofs.YtnglkhnfmbnfeaaGreat
namespace Go.Proofs.YtnglkhnfmbnfeaaGreat
open Go Go.SK
structure ActD.Ok (a : ActD) : Prop where
  bill : a.bill.size ≤ maxLen
  by_ : a.by_.size ≤ maxLen
  to_ : a.to_.size ≤ maxLen
  b : a.b.Ok
structure ActAt (A : Nat → Prop) (w : World) (a : ActD) (vb vp : Value) : Prop where
  boxes : SlS A w vb a.b.boxes
  parents : SlS A w vp a.b.parents
  cap : ∀ p n c, vb = .slice p n c → n ≤ c
  ok : a.Ok
theorem ActAt.ext {A F : Nat → Prop} {w w' : World} {a : ActD} {vb vp : Value} (h : ActAt A w a vb vp) (hx : Ext F w w') (hn : ∀ b, A b → ¬ F b) : ActAt A w' a vb vp := ⟨h.boxes.ext hx hn, h.parents.ext hx hn, h.cap, h.ok⟩
theorem ActAt.ex {A : Nat → Prop} {w w' : World} {a : ActD} {vb vp : Value} (h : ActAt A w a vb vp) (hx : Ex w w') : ActAt A w' a vb vp := h.ext hx fun _ _ f => f
structure ActsAt (A : Nat → Prop) (w : World) (v : Value) (l : List ActD) : Prop where
  is : ∃ p cap, v = .slice p l.length cap ∧ l.length ≤ maxLen ∧ (∀ i (hi : i < l.length), ∃ b o vb vp, p = some ⟨b, o, none⟩ ∧ A b ∧ Rd w b (o + i * 15) (encAct l[i] vb vp) ∧ ActAt A w l[i] vb vp)
theorem ActsAt.ext {A F : Nat → Prop} {w w' : World} {v : Value} {l : List ActD} (h : ActsAt A w v l) (hx : Ext F w w') (hn : ∀ b, A b → ¬ F b) : ActsAt A w' v l := by
  obtain ⟨p, cap, h1, h2, h3⟩ := h.is
  refine ⟨p, cap, h1, h2, fun i hi => ?_⟩
  obtain ⟨b, o, vb, vp, h4, h5, h6, h7⟩ := h3 i hi
  exact ⟨b, o, vb, vp, h4, h5, h6.ext hx (hn b h5), h7.ext hx hn⟩
theorem ActsAt.ex {A : Nat → Prop} {w w' : World} {v : Value} {l : List ActD} (h : ActsAt A w v l) (hx : Ex w w') : ActsAt A w' v l := h.ext hx fun _ _ f => f
theorem encAct_one {A : Nat → Prop} {w : World} {a : ActD} {vb vp : Value} (h : ActAt A w a vb vp) : ∀ u ∈ encAct a vb vp, u.oneCell' = true := by
  intro u hu
  simp [encAct, encB] at hu
  rcases hu with rfl | rfl | rfl | rfl | rfl | rfl | rfl | rfl | rfl | rfl | rfl | rfl | rfl | rfl | rfl <;> first | rfl | exact Sl.one h.boxes | exact Sl.one h.parents
def FewP (l : List ActD) : Prop := l.length ≤ 41 ∧ ∀ a ∈ l, a.b.boxes.length ≤ 70 ∧ a.b.parents.length ≤ 70
set_option maxHeartbeats 2000000 in
theorem r23_Few {A : Nat → Prop} {w : World} {v : Value} {l : List ActD} (hA : ActsAt A w v l) : Ret Tryz.prog 11 [v] w fun u w' => (∃ b, u = .bool b ∧ (b = true → FewP l)) ∧ Ex w w' := by
  obtain ⟨p, cap, rfl, hm, hr⟩ := hA.is
  unfold maxLen at hm
  refine ret_of Tryz.func11 Tryz.ntmps11 rfl rfl rfl ?_
  (repeat (first | refine lw_pure hT rfl ?_ | refine lw_nil ?_ | refine cw_seq ?_ | refine cw_region ?_ | refine qw_then ?_ | refine cw_block ?_))
  refine cw_loop (fun i : Nat => [(0, .slice p l.length cap), (3, .int .i64 (i : Nat))]) (fun i w' => Ex w w' ∧ i ≤ l.length ∧ i ≤ 41 ∧ ∀ j (hj : j < l.length), j < i → l[j].b.boxes.length ≤ 70 ∧ l[j].b.parents.length ≤ 70) (fun i => l.length - i) 0 (by repeat (first | exact trivial | refine ⟨rfl, ?_⟩)) ⟨Ext.refl _ _, Nat.zero_le _, Nat.zero_le _, fun j _ hj => by omega⟩ ?_
  rintro i w1 ⟨hx1, hi, hi41, hb⟩
  have no : ∀ w', Ex w1 w' → (∃ b, Value.bool false = .bool b ∧ (b = true → FewP l)) ∧ Ex w w' := fun w' h => ⟨⟨false, rfl, fun h => by cases h⟩, hx1.trans h⟩
  (repeat (first | refine lw_pure hT rfl ?_ | refine lw_nil ?_ | refine cw_seq ?_ | refine cw_region ?_ | refine qw_then ?_))
  refine cw_cond rfl (fun h => ?_) (fun h => ?_)
  · have hlt : i < l.length := by simp at h; omega
    obtain ⟨b, o, vb, vp, rfl, _, hrd, hat⟩ := hr i hlt
    generalize ha : l[i] = a at hrd hat
    have hat1 := hat.ex hx1
    obtain ⟨pb, cb, rfl, _, _⟩ := hat1.boxes.is
    obtain ⟨pp, cp, rfl, _, _⟩ := hat1.parents.is
    have hone := encAct_one hat1
    simp only [List.length_map] at *
    have s1 := hat.ok.bill
    have s2 := hat.ok.by_
    have s3 := hat.ok.to_
    have s4 := hat.ok.b.number
    have s5 := hat.ok.b.shipper
    have s6 := hat.ok.b.frm
    have s7 := hat.ok.b.to_
    unfold maxLen at s1 s2 s3 s4 s5 s6 s7
    (repeat (first | refine lw_pure hT rfl ?_ | refine cw_seq ?_ | refine cw_region ?_ | refine qw_then ?_ | refine cw_skip ?_ | refine cw_block ?_))
    refine lw_index hT rfl rfl rfl i rfl hlt ?_
    skip
    refine lw_load_agg hT rfl rfl rfl (hrd.ex hx1) ?_
    skip
    refine lw_alloc z73 ?_
    intro b4 w2 hbb4 hb4 hx2 hs2
    skip
    refine lw_store_agg hT rfl rfl rfl rfl hone hb4 (show (15 : Nat) ≤ 15 by decide) ?_
    intro w3 hb3 hx3 hs3
    replace hb3 : Blk w3 b4 (encAct a (.slice pb a.b.boxes.length cb) (.slice pp a.b.parents.length cp)) 73 := hb3
    have hx13 : Ex w1 w3 := hx2.up_new hx3 (fun i h => by omega)
    (repeat (first | refine lw_pure hT rfl ?_ | refine lw_nil ?_ | refine cw_seq ?_ | refine cw_region ?_ | refine qw_then ?_))
    refine lw_guard rfl (fun h1 => ?_) (fun h1 => ?_)
    · (repeat (first | refine lw_pure hT rfl ?_ | refine lw_nil ?_ | refine cw_seq ?_ | refine cw_region ?_ | refine qw_then ?_ | refine cw_ret ?_ | refine qw_then_ret ?_ | (refine lw_goff_t rfl ?_ ?_; focus with_reducible (first | rfl | exact Bool.not_false | exact Bool.not_true)) | refine qw_block_ret ?_ | (refine cw_cond_t rfl ?_ ?_; focus with_reducible (first | rfl | exact Bool.not_false | exact Bool.not_true))))
      exact qw_ret rfl (no _ hx13)
    have h1 : i ≤ 40 := by have := of_decide_eq_false h1; omega
    (repeat (first | refine lw_pure hT rfl ?_ | (refine lw_gon_f rfl ?_ ?_; focus with_reducible (first | rfl | exact Bool.not_false | exact Bool.not_true))))
    refine lw_load hT rfl rfl (v := .string a.bill) (hb3.cell 3) ?_
    (repeat (first | refine lw_pure hT rfl ?_ | (refine lw_gon_f rfl ?_ ?_; focus with_reducible (first | rfl | exact Bool.not_false | exact Bool.not_true))))
    refine lw_load hT rfl rfl (v := .string a.by_) (hb3.cell 4) ?_
    (repeat (first | refine lw_pure hT rfl ?_ | (refine lw_gon_f rfl ?_ ?_; focus with_reducible (first | rfl | exact Bool.not_false | exact Bool.not_true))))
    refine lw_load hT rfl rfl (v := .string a.to_) (hb3.cell 5) ?_
    (repeat (first | refine lw_pure hT rfl ?_ | (refine lw_gon_f rfl ?_ ?_; focus with_reducible (first | rfl | exact Bool.not_false | exact Bool.not_true))))
    refine lw_guard rfl (fun h2 => ?_) (fun h2 => ?_)
    · (repeat (first | refine lw_pure hT rfl ?_ | refine lw_nil ?_ | refine cw_seq ?_ | refine cw_region ?_ | refine qw_then ?_ | refine cw_ret ?_ | refine qw_then_ret ?_ | (refine lw_goff_t rfl ?_ ?_; focus with_reducible (first | rfl | exact Bool.not_false | exact Bool.not_true)) | refine qw_block_ret ?_ | (refine cw_cond_t rfl ?_ ?_; focus with_reducible (first | rfl | exact Bool.not_false | exact Bool.not_true))))
      exact qw_ret rfl (no _ hx13)
    (repeat (first | refine lw_pure hT rfl ?_ | (refine lw_gon_f rfl ?_ ?_; focus with_reducible (first | rfl | exact Bool.not_false | exact Bool.not_true))))
    refine lw_load hT rfl rfl (v := .slice pb a.b.boxes.length cb) (hb3.cell 11) ?_
    (repeat (first | refine lw_pure hT rfl ?_ | (refine lw_gon_f rfl ?_ ?_; focus with_reducible (first | rfl | exact Bool.not_false | exact Bool.not_true))))
    refine lw_guard rfl (fun h3 => ?_) (fun h3 => ?_)
    · (repeat (first | refine lw_pure hT rfl ?_ | refine lw_nil ?_ | refine cw_seq ?_ | refine cw_region ?_ | refine qw_then ?_ | refine cw_ret ?_ | refine qw_then_ret ?_ | (refine lw_goff_t rfl ?_ ?_; focus with_reducible (first | rfl | exact Bool.not_false | exact Bool.not_true)) | refine qw_block_ret ?_ | (refine cw_cond_t rfl ?_ ?_; focus with_reducible (first | rfl | exact Bool.not_false | exact Bool.not_true))))
      exact qw_ret rfl (no _ hx13)
    have h3 : a.b.boxes.length ≤ 70 := by have := of_decide_eq_false h3; omega
    (repeat (first | refine lw_pure hT rfl ?_ | (refine lw_gon_f rfl ?_ ?_; focus with_reducible (first | rfl | exact Bool.not_false | exact Bool.not_true))))
    refine lw_load hT rfl rfl (v := .slice pp a.b.parents.length cp) (hb3.cell 12) ?_
    (repeat (first | refine lw_pure hT rfl ?_ | (refine lw_gon_f rfl ?_ ?_; focus with_reducible (first | rfl | exact Bool.not_false | exact Bool.not_true))))
    refine lw_guard rfl (fun h4 => ?_) (fun h4 => ?_)
    · (repeat (first | refine lw_pure hT rfl ?_ | refine lw_nil ?_ | refine cw_seq ?_ | refine cw_region ?_ | refine qw_then ?_ | refine cw_ret ?_ | refine qw_then_ret ?_ | (refine lw_goff_t rfl ?_ ?_; focus with_reducible (first | rfl | exact Bool.not_false | exact Bool.not_true)) | refine qw_block_ret ?_ | (refine cw_cond_t rfl ?_ ?_; focus with_reducible (first | rfl | exact Bool.not_false | exact Bool.not_true))))
      exact qw_ret rfl (no _ hx13)
    have h4 : a.b.parents.length ≤ 70 := by have := of_decide_eq_false h4; omega
    (repeat (first | refine lw_pure hT rfl ?_ | (refine lw_gon_f rfl ?_ ?_; focus with_reducible (first | rfl | exact Bool.not_false | exact Bool.not_true))))
    refine lw_load hT rfl rfl (v := .string a.b.number) (hb3.cell 6) ?_
    (repeat (first | refine lw_pure hT rfl ?_ | (refine lw_gon_f rfl ?_ ?_; focus with_reducible (first | rfl | exact Bool.not_false | exact Bool.not_true))))
    refine lw_load hT rfl rfl (v := .string a.b.shipper) (hb3.cell 8) ?_
    (repeat (first | refine lw_pure hT rfl ?_ | (refine lw_gon_f rfl ?_ ?_; focus with_reducible (first | rfl | exact Bool.not_false | exact Bool.not_true))))
    refine lw_load hT rfl rfl (v := .string a.b.frm) (hb3.cell 9) ?_
    (repeat (first | refine lw_pure hT rfl ?_ | (refine lw_gon_f rfl ?_ ?_; focus with_reducible (first | rfl | exact Bool.not_false | exact Bool.not_true))))
    refine lw_load hT rfl rfl (v := .string a.b.to_) (hb3.cell 10) ?_
    (repeat (first | refine lw_pure hT rfl ?_ | refine lw_nil ?_ | refine qw_then ?_ | (refine lw_gon_f rfl ?_ ?_; focus with_reducible (first | rfl | exact Bool.not_false | exact Bool.not_true))))
    refine cw_cond rfl (fun h5 => ?_) (fun h5 => ?_)
    · (repeat (first | refine lw_pure hT rfl ?_ | refine lw_nil ?_ | refine cw_seq ?_ | refine cw_region ?_ | refine qw_then ?_ | refine cw_ret ?_ | refine qw_then_ret ?_ | refine qw_block_ret ?_))
      exact qw_ret rfl (no _ hx13)
    (repeat (first | (refine lw_add rfl rfl ?_ ?_ ?_; iterate 2 omega) | refine lw_pure hT rfl ?_ | refine lw_nil ?_ | refine cw_region ?_ | refine qw_then ?_ | refine cw_skip ?_ | refine qw_block ?_))
    refine qw_round (i + 1) (by repeat (first | exact trivial | refine ⟨rfl, ?_⟩)) ⟨hx1.trans hx13, hlt, by omega, fun j hj hji => ?_⟩ (by omega)
    by_cases e : j = i
    · subst e; rw [ha]; exact ⟨h3, h4⟩
    · exact hb j hj (by omega)
  · have : i = l.length := by simp at h; omega
    subst this
    (repeat (first | refine lw_pure hT rfl ?_ | refine lw_nil ?_ | refine cw_seq ?_ | refine cw_region ?_ | refine qw_then ?_ | refine cw_ret ?_ | refine cw_exit ?_ | refine qw_block_exit ?_ | refine qw_then_exit ?_))
    refine qw_ret rfl ⟨⟨true, rfl, fun _ => ⟨hi41, fun a ha => ?_⟩⟩, hx1⟩
    obtain ⟨j, hj, rfl⟩ := List.getElem_of_mem ha
    exact hb j hj hj
theorem r_Same {A B : Nat → Prop} {va vb : Value} {la lb : List ByteArray} (w : World) (hA : SlS A w va la) (hB : SlS B w vb lb) : Ret Tryz.prog 18 [va, vb] w fun u w' => u = .bool (decide (la = lb)) ∧ Ex w w' := by
  have hma := hA.small
  have hmb := hB.small
  obtain ⟨a, ca, rfl, _, hra⟩ := hA.is
  obtain ⟨b, cb, rfl, _, hrb⟩ := hB.is
  simp only [List.length_map] at *
  unfold maxLen at hma hmb
  refine ret_of Tryz.func18 Tryz.ntmps18 rfl rfl rfl ?_
  (repeat (first | refine lw_pure hT rfl ?_ | refine lw_nil ?_ | refine cw_seq ?_ | refine cw_region ?_ | refine qw_then ?_))
  refine cw_cond rfl (fun h => ?_) (fun h => ?_)
  · have hne : la ≠ lb := by rintro rfl; simp at h
    (repeat (first | refine lw_pure hT rfl ?_ | refine lw_nil ?_ | refine cw_seq ?_ | refine cw_region ?_ | refine qw_then ?_ | refine cw_ret ?_ | refine qw_then_ret ?_))
    exact qw_ret rfl ⟨by rw [decide_eq_false hne]; rfl, Ext.refl _ _⟩
  have hl : la.length = lb.length := by have := of_decide_eq_false h; omega
  (repeat (first | refine lw_pure hT rfl ?_ | refine lw_nil ?_ | refine cw_seq ?_ | refine cw_region ?_ | refine qw_then ?_ | refine cw_skip ?_ | refine cw_block ?_))
  refine cw_loop (fun i : Nat => [(0, .slice a la.length ca), (1, .slice b lb.length cb), (5, .int .i64 (i : Nat))]) (fun i w' => Ex w w' ∧ i ≤ la.length ∧ ∀ j (h1 : j < la.length) (h2 : j < lb.length), j < i → la[j] = lb[j]) (fun i => la.length - i) 0 (by repeat (first | exact trivial | refine ⟨rfl, ?_⟩)) ⟨Ext.refl _ _, Nat.zero_le _, fun j _ _ hj => by omega⟩ ?_
  rintro i w1 ⟨hx1, hi, he⟩
  (repeat (first | refine lw_pure hT rfl ?_ | refine lw_nil ?_ | refine cw_seq ?_ | refine cw_region ?_ | refine qw_then ?_))
  refine cw_cond rfl (fun h => ?_) (fun h => ?_)
  · have hlt : i < la.length := by simp at h; omega
    have hlt' : i < lb.length := by omega
    have hnea : la.map (fun s => [Value.string s]) ≠ [] := by intro e; simp at e; subst e; simp at hlt
    have hneb : lb.map (fun s => [Value.string s]) ≠ [] := by intro e; simp at e; subst e; simp at hlt'
    obtain ⟨ba, oa, rfl, _, hrda⟩ := hra hnea
    obtain ⟨bb, ob, rfl, _, hrdb⟩ := hrb hneb
    have ra := (hrda i [.string la[i]] (by simp [hlt])).2.ex hx1
    have rb := (hrdb i [.string lb[i]] (by simp [hlt'])).2.ex hx1
    (repeat (first | refine cw_seq ?_ | refine qw_then ?_ | refine cw_skip ?_ | refine cw_block ?_))
    refine cw_draw hM (fun w' => Ex w1 w') [] rfl rfl (by repeat with_reducible (first | refine nop_then ?_ | refine nop_block ?_ | exact nop_body)) (fun w2 hx2 _ => ⟨hx2, ?_⟩)
    (refine rw_takeP 0 rfl rfl (by kernel_rfl) (by kernel_rfl) (by kernel_rfl) (by kernel_rfl) rfl (yo_pure hT rfl) ?_; refine rw_takeP 1 rfl rfl (by kernel_rfl) (by kernel_rfl) (by kernel_rfl) (by kernel_rfl) rfl (yo_pure hT rfl) ?_)
    refine rw_takeP 2 rfl rfl (by kernel_rfl) (by kernel_rfl) (by kernel_rfl) (by kernel_rfl) rfl (yo_index hT rfl rfl rfl i rfl hlt) ?_
    refine rw_take 3 rfl rfl (by kernel_rfl) (by kernel_rfl) (by kernel_rfl) (by kernel_rfl) rfl (yo_load hT rfl rfl (v := .string la[i]) (fun w' hS => Ex.cell hS (ra 0 _ rfl))) ?_
    (refine rw_takeP 4 rfl rfl (by kernel_rfl) (by kernel_rfl) (by kernel_rfl) (by kernel_rfl) rfl (yo_pure hT rfl) ?_; refine rw_takeP 5 rfl rfl (by kernel_rfl) (by kernel_rfl) (by kernel_rfl) (by kernel_rfl) rfl (yo_pure hT rfl) ?_)
    refine rw_takeP 6 rfl rfl (by kernel_rfl) (by kernel_rfl) (by kernel_rfl) (by kernel_rfl) rfl (yo_index hT rfl rfl rfl i rfl hlt') ?_
    refine rw_take 7 rfl rfl (by kernel_rfl) (by kernel_rfl) (by kernel_rfl) (by kernel_rfl) rfl (yo_load hT rfl rfl (v := .string lb[i]) (fun w' hS => Ex.cell hS (rb 0 _ rfl))) ?_
    (refine rw_takeP 8 rfl rfl (by kernel_rfl) (by kernel_rfl) (by kernel_rfl) (by kernel_rfl) rfl (yo_pure hT rfl) ?_)
    refine rw_done (by kernel_rfl) ?_
    (repeat (refine qw_then ?_))
    refine cw_cond rfl (fun h' => ?_) (fun h' => ?_)
    · have hne : la ≠ lb := by rintro rfl; simp at h'
      (repeat (first | refine lw_pure hT rfl ?_ | refine lw_nil ?_ | refine cw_seq ?_ | refine cw_region ?_ | refine qw_then ?_ | refine cw_ret ?_ | refine qw_then_ret ?_ | refine qw_block_ret ?_))
      exact qw_ret rfl ⟨by rw [decide_eq_false hne]; rfl, hx1.trans hx2⟩
    · have h' : la[i] = lb[i] := by simpa using h'
      (repeat (first | (refine lw_add rfl rfl ?_ ?_ ?_; iterate 2 omega) | refine lw_pure hT rfl ?_ | refine lw_nil ?_ | refine cw_region ?_ | refine qw_then ?_ | refine cw_skip ?_ | refine qw_block ?_))
      refine qw_round (i + 1) (by repeat (first | exact trivial | refine ⟨rfl, ?_⟩)) ⟨hx1.trans hx2, hlt, fun j h1 h2 hji => ?_⟩ (by omega)
      by_cases e : j = i
      · subst e; exact h'
      · exact he j h1 h2 (by omega)
  · have : i = la.length := by simp at h; omega
    subst this
    (repeat (first | refine lw_pure hT rfl ?_ | refine lw_nil ?_ | refine cw_seq ?_ | refine cw_region ?_ | refine qw_then ?_ | refine cw_ret ?_ | refine cw_exit ?_ | refine qw_block_exit ?_ | refine qw_then_exit ?_))
    have heq : la = lb := List.ext_getElem hl fun j h1 h2 => he j h1 h2 h1
    exact qw_ret rfl ⟨by rw [decide_eq_true heq]; rfl, hx1⟩
end Go.Proofs.YtnglkhnfmbnfeaaGreat
namespace Go.Proofs.YtnglkhnfmbnfeaaGreat
open Go Go.SK
theorem rd_lt {w : World} {b o : Nat} {v : Value} {vs : List Value} (h : Rd w b o (v :: vs)) : b < w.heap.size := World.block_lt_of_cell? w ⟨b, o + 0, none⟩ (h 0 v rfl)
theorem ActAt.lt {A : Nat → Prop} {w : World} {a : ActD} {vb vp : Value} (h : ActAt A w a vb vp) : ActAt (fun b => A b ∧ b < w.heap.size) w a vb vp := ⟨h.boxes.lt (by decide), h.parents.lt (by decide), h.cap, h.ok⟩
theorem ActsAt.lt {A : Nat → Prop} {w : World} {v : Value} {l : List ActD} (h : ActsAt A w v l) : ActsAt (fun b => A b ∧ b < w.heap.size) w v l := by
  obtain ⟨p, cap, h1, h2, h3⟩ := h.is
  refine ⟨p, cap, h1, h2, fun i hi => ?_⟩
  obtain ⟨b, o, vb, vp, h4, h5, h6, h7⟩ := h3 i hi
  exact ⟨b, o, vb, vp, h4, ⟨h5, rd_lt h6⟩, h6, h7.lt⟩
theorem ActsAt.ok {A : Nat → Prop} {w : World} {v : Value} {l : List ActD} (h : ActsAt A w v l) : ∀ a ∈ l, a.Ok := by
  obtain ⟨p, cap, _, _, h3⟩ := h.is
  intro a ha
  obtain ⟨i, hi, rfl⟩ := List.getElem_of_mem ha
  obtain ⟨_, _, _, _, _, _, _, h7⟩ := h3 i hi
  exact h7.ok
theorem encB_one {A : Nat → Prop} {w : World} {b : BillD} {vb vp : Value} (h1 : vb.oneCell' = true) (h2 : vp.oneCell' = true) : ∀ u ∈ encB b vb vp, u.oneCell' = true := by
  intro u hu
  simp [encB] at hu
  rcases hu with rfl | rfl | rfl | rfl | rfl | rfl | rfl | rfl | rfl <;> first | rfl | assumption
def runA (r : RegD) (l : List ActD) : RegD := l.foldl doA r
theorem runA_take {r : RegD} {l : List ActD} {i : Nat} (hi : i < l.length) : runA r (l.take (i + 1)) = doA (runA r (l.take i)) l[i] := by
  unfold runA
  rw [List.take_succ_eq_append_getElem hi, List.foldl_append]; rfl
theorem runA_carrier (r : RegD) (l : List ActD) : (runA r l).carrier = r.carrier := by
  unfold runA
  induction l generalizing r with
  | nil => rfl
  | cons a l ih => rw [List.foldl_cons, ih, do_carrier]
theorem good_run {k : Nat} {r : RegD} : ∀ {l : List ActD}, Good k r → (∀ a ∈ l, a.Ok) → (∀ a ∈ l, 0 ≤ a.kind ∧ a.kind ≤ 5) → Good (k + l.length) (runA r l)
  | [], h, _, _ => h
  | a :: l, h, h1, h2 => by
    have h0 := h1 a List.mem_cons_self
    have := good_run (l := l) (good_do h (h2 a List.mem_cons_self) h0.b h0.to_) (fun x hx => h1 x (List.mem_cons_of_mem _ hx)) (fun x hx => h2 x (List.mem_cons_of_mem _ hx))
    rw [List.length_cons, show k + (l.length + 1) = k + 1 + l.length from by omega]
    exact this
def regC : RegD := ⟨⟨#[99]⟩, []⟩
structure PlayP (N : Nat) (w' : World) (r : RegD) (p m : Nat) (gs : List GhostE) (vL : Value) (fgs : List FG) (A : Nat → Prop) : Prop where
  rep : Rep w' p r m gs
  new : ∀ b ∈ foot p m gs, N ≤ b
  frep : FRep A w' vL r.l fgs
  dis : ∀ b, A b → b ∉ foot p m gs
  newA : ∀ b, A b → N ≤ b
theorem own_slice {w : World} {base e size n : Nat} {v : Value} {xs : List Value} (h : w.ownsRow base e size v n xs) (hn : 0 < n) : ∃ g cap, v = .slice (some ⟨g, 0, none⟩) n cap := by
  rcases h.2 with ⟨_, h0⟩ | ⟨g, cap, cur, rfl, _⟩
  · omega
  · exact ⟨g, cap, rfl⟩
theorem Mut.step {w w' w'' : World} {p m : Nat} {gs gs' : List GhostE} {r'' : RegD} (hf : ∀ b ∈ foot p m gs', b ∈ foot p m gs ∨ w.heap.size ≤ b) (hx : Ext (· ∈ foot p m gs) w w') (h : Mut w' p m gs' r'' w'') : Mut w p m gs r'' w'' := by
  obtain ⟨gs'', h1, h2⟩ := h.is
  refine ⟨⟨gs'', h1, fun b hb => ?_⟩, hx.trans' h.ext (fun _ _ h => h) (fun i hi g => ?_)⟩
  · rcases h2 b hb with h | h
    · exact hf b h
    · exact .inr (by have := hx.size; omega)
  · rcases hf i g with h | h
    · exact h
    · omega
theorem Mut.ex {w w' w'' : World} {p m : Nat} {gs : List GhostE} {r : RegD} (h : Mut w p m gs r w') (hx : Ex w' w'') : Mut w p m gs r w'' := by
  obtain ⟨gs', h1, h2⟩ := h.is
  exact ⟨⟨gs', h1.ex hx, h2⟩, h.ext.up hx⟩
end Go.Proofs.YtnglkhnfmbnfeaaGreat
namespace Go.SK
open Go
attribute [local semireducible] CW LW QW Ret Kn
section
variable {P : Program} {T : Tab} {n : Nat} {fr : Fr} {w : World} {Q : Exit → Act → World → Prop} {ops : Array Oper} {rest : List Oper}
theorem equalIn_bool (d : Nat) {t : Nat} {a b : Bool} (hu : P.underlying t = some .bool) : (Op.equalIn (d + 1) t (.bool a) (.bool b)).run P w = .ok (a == b) w := by
  simp [Op.equalIn, run_underlying hu]
theorem lw_eq_bool {d t : Nat} {a b : Bool} {x y : Operand} {t' : TypeId} {ty : TypeId} {ps : String} {af : Array Edge} (hu : P.underlying t = some .bool) (hx : ev n fr x = some (.bool a)) (hy : ev n fr y = some (.bool b))
    (k : LW P ops Q rest n ((d, .bool (a == b)) :: fr) w) :
    LW P ops Q ({ dst := some d, op := .binOp .eql t x y t', type := ty, pos := ps, after := af, guard := none } :: rest) n fr w := by
  refine lw_run rfl rfl (fun a' hk => ?_) k
  have hq : (Op.equal t (.bool a) (.bool b)).run P w = .ok (a == b) w := equalIn_bool 9999 hu
  simp only [execOp, ev_sound hk hx, ev_sound hk hy]
  simp [eqGuard, binOp, hq]
theorem lw_neq_bool {d t : Nat} {a b : Bool} {x y : Operand} {t' : TypeId} {ty : TypeId} {ps : String} {af : Array Edge} (hu : P.underlying t = some .bool) (hx : ev n fr x = some (.bool a)) (hy : ev n fr y = some (.bool b))
    (k : LW P ops Q rest n ((d, .bool (!(a == b))) :: fr) w) :
    LW P ops Q ({ dst := some d, op := .binOp .neq t x y t', type := ty, pos := ps, after := af, guard := none } :: rest) n fr w := by
  refine lw_run rfl rfl (fun a' hk => ?_) k
  have hq : (Op.equal t (.bool a) (.bool b)).run P w = .ok (a == b) w := equalIn_bool 9999 hu
  simp only [execOp, ev_sound hk hx, ev_sound hk hy]
  simp [eqGuard, binOp, hq]
end
end Go.SK
namespace Go.Proofs.YtnglkhnfmbnfeaaGreat
open Go Go.SK
theorem state_of {r : RegD} {n : ByteArray} {x : EntD} (h : r.at? n = some x) : r.stateOf n = x.state := by unfold RegD.stateOf; rw [h]
theorem origs_of {r : RegD} {n : ByteArray} {x : EntD} (h : r.at? n = some x) : r.origsOf n = x.ps.zipIdx := by unfold RegD.origsOf; rw [h]
theorem Good.states {k : Nat} {r : RegD} (h : Good k r) (n : ByteArray) : (r.stateOf n = -1 ∨ r.stateOf n = 0) ∨ ∃ x, r.at? n = some x ∧ EntG k r.carrier x ∧ r.stateOf n = x.state ∧ ((x.state = 1 ∧ (x.ps.filter isDone).length = 1 ∧ ∀ q ∈ x.ps, q.state = 1 ∨ q.state = 2) ∨ (x.state = 4 ∧ ∀ q ∈ x.ps, q.state = 2)) := by
  unfold RegD.stateOf
  cases hat : r.at? n with
  | none => exact .inl (.inl rfl)
  | some x =>
    obtain ⟨_, i, hx⟩ := at_some hat
    have hE := h.ent x (List.mem_of_getElem? hx)
    rcases hE.st with h' | h' | h'
    · exact .inl (.inr h'.1)
    · exact .inr ⟨x, rfl, hE, rfl, .inl h'⟩
    · exact .inr ⟨x, rfl, hE, rfl, .inr h'⟩
end Go.Proofs.YtnglkhnfmbnfeaaGreat
namespace Go.Proofs.YtnglkhnfmbnfeaaGreat
open Go Go.SK
theorem zeroB_ok : zeroB.Ok := by
  refine ⟨?_, ?_, ?_, ?_, ?_, ?_, ?_⟩ <;> first | (show _ ≤ maxLen; decide) | (intro x hx; simp [zeroB] at hx)
end Go.Proofs.YtnglkhnfmbnfeaaGreat
namespace Go.Proofs.YtnglkhnfmbnfeaaGreat
open Go Go.SK
def retiA (bill by_ : ByteArray) (day : Int) : ActD := ⟨5, -1, day, bill, by_, ⟨#[]⟩, zeroB⟩
theorem pap_of {r : RegD} {n : ByteArray} {x : EntD} (h : r.at? n = some x) (h3 : x.ps.length = 3) {i : Nat} (hi : i < 3) : r.pap n (i : Int) = some (x, papAt x i) := by
  unfold RegD.pap
  rw [h]
  simp only
  rw [if_pos (by omega)]
  rfl
theorem chain_of {r : RegD} {n : ByteArray} {x : EntD} (h : r.at? n = some x) (h3 : x.ps.length = 3) {i : Nat} (hi : i < 3) : r.chainOf n (i : Int) = (papAt x i).chain := by
  unfold RegD.chainOf
  rw [pap_of h h3 hi]
theorem orig_at {r : RegD} {n : ByteArray} {x : EntD} (h : r.at? n = some x) (h3 : x.ps.length = 3) {i : Nat} (hi : i < 3) : (r.origsOf n)[i]? = some (papAt x i, i) ∧ (r.origsOf n).length = 3 := by
  rw [origs_of h]
  refine ⟨by simp [papAt_get h3 hi], by simp [h3]⟩
end Go.Proofs.YtnglkhnfmbnfeaaGreat
namespace Go.Proofs.YtnglkhnfmbnfeaaGreat
open Go Go.SK
def stepsC : RegD → List ActD → Int
  | _, [] => 0
  | r, a :: l => if actC r a = 0 then stepsC (doA r a) l else actC r a
def stepsR (r : RegD) (l : List ActD) : RegD := if stepsC r l = 0 then runA r l else r
theorem stepsC_append (r : RegD) : ∀ (l l' : List ActD), stepsC r (l ++ l') = if stepsC r l = 0 then stepsC (runA r l) l' else stepsC r l
  | [], l' => rfl
  | a :: l, l' => by
    by_cases h : actC r a = 0
    · have e : ∀ m, stepsC r (a :: m) = stepsC (doA r a) m := fun m => by simp only [stepsC]; rw [if_pos h]
      rw [List.cons_append, e, e, stepsC_append (doA r a) l l']; rfl
    · have e : ∀ m, stepsC r (a :: m) = actC r a := fun m => by simp only [stepsC]; rw [if_neg h]
      rw [List.cons_append, e, e, if_neg h]
theorem stepsC_snoc (r : RegD) (l : List ActD) (a : ActD) : stepsC r (l ++ [a]) = if stepsC r l = 0 then actC (runA r l) a else stepsC r l := by
  rw [stepsC_append]
  split
  · simp only [stepsC]; split <;> simp_all
  · rfl
theorem upd_len (r : RegD) (n : ByteArray) (f : EntD → EntD) : (r.upd n f).l.length = r.l.length := by simp [RegD.upd]
theorem do_len {r : RegD} {a : ActD} (h : r.l.length ≤ 256) : (doA r a).l.length ≤ 256 := by
  unfold doA
  split
  · unfold issueD
    split
    · next hc =>
      have : r.l.length ≠ 256 := by
        intro e
        unfold issueC at hc
        repeat' split at hc
        all_goals first | cases hc | contradiction
      simp; omega
    · exact h
  · split
    · rw [upd_len]; exact h
    · exact h
theorem run_len : ∀ {l : List ActD} {r : RegD}, r.l.length ≤ 256 → (runA r l).l.length ≤ 256
  | [], _, h => h
  | _ :: l, _, h => run_len (l := l) (do_len h)
theorem runA_append (r : RegD) (l l' : List ActD) : runA r (l ++ l') = runA (runA r l) l' := by simp [runA]
def StepOk (a : ActD) : Prop := (a.kind = 0 ∨ a.kind = 5) ∧ a.Ok
theorem good_steps {k : Nat} {r : RegD} (hG : Good k r) {l : List ActD} (h : ∀ a ∈ l, StepOk a) : Good (k + l.length) (stepsR r l) := by
  unfold stepsR
  split
  · exact good_run hG (fun a ha => (h a ha).2) (fun a ha => by have := (h a ha).1; omega)
  · exact hG.mono (Nat.le_add_right _ _)
theorem steps_len {r : RegD} (h : r.l.length ≤ 256) (l : List ActD) : (stepsR r l).l.length ≤ 256 := by
  unfold stepsR
  split
  · exact run_len h
  · exact h
def issA (b : BillD) (holder : ByteArray) : ActD := ⟨0, 0, 0, ⟨#[]⟩, ⟨#[]⟩, holder, b⟩
def nextB (b : BillD) (number : ByteArray) (boxes parents : List ByteArray) (day : Int) : BillD := { b with number := number, boxes := boxes, parents := parents, issued := day }
def PartP (boxes : List ByteArray) (parts : List (List ByteArray)) : Prop := (∀ p ∈ parts, p ≠ []) ∧ parts.flatten.Perm boxes
open Classical in
noncomputable def splitC (r : RegD) (bill by_ : ByteArray) (parts : List (List ByteArray)) (numbers : List ByteArray) (day : Int) : Int × List ActD := match r.at? bill with
  | none => (4, [])
  | some x => if parts.length < 2 ∨ 64 < parts.length ∨ numbers.length ≠ parts.length ∨ (∃ n ∈ numbers, nameB n = false) ∨ ¬ numbers.Nodup ∨ ¬ PartP x.bill.boxes parts then (1, [])
    else (0, retiA bill by_ day :: (parts.zip numbers).map fun q => issA (nextB x.bill q.2 q.1 [bill] day) by_)
def sameB (a b : BillD) : Prop := b.shipper = a.shipper ∧ b.frm = a.frm ∧ b.to_ = a.to_ ∧ b.clean = a.clean
open Classical in
noncomputable def joinC (r : RegD) (bills : List ByteArray) (by_ number : ByteArray) (day : Int) : Int × List ActD :=
  if bills.length < 2 ∨ 64 < bills.length ∨ ¬ bills.Nodup then (1, [])
  else if ∃ n ∈ bills, r.at? n = none then (4, [])
  else match bills.filterMap r.at? with
    | [] => (1, [])
    | x :: xs => if ∃ y ∈ xs, ¬ sameB x.bill y.bill then (12, [])
      else (0, bills.map (retiA · by_ day) ++ [issA (nextB x.bill number ((x :: xs).flatMap fun y => y.bill.boxes) bills day) by_])
def switchC (r : RegD) (bill by_ number shipper frm : ByteArray) (day : Int) : Int × List ActD := match r.at? bill with
  | none => (4, [])
  | some x => (0, [retiA bill by_ day, issA (nextB { x.bill with shipper := shipper, frm := frm } number x.bill.boxes [bill] day) by_])
def callC (r : RegD) (c : Int × List ActD) : Int := if c.1 = 0 then stepsC r c.2 else c.1
def callR (r : RegD) (c : Int × List ActD) : RegD := if c.1 = 0 then stepsR r c.2 else r
theorem nodup_perm : ∀ {a b : List ByteArray}, a.Nodup → (∀ x ∈ a, x ∈ b) → a.length = b.length → a.Perm b
  | [], b, _, _, hl => by
    have : b = [] := List.eq_nil_of_length_eq_zero hl.symm
    rw [this]
  | x :: a, b, hn, hs, hl => by
    obtain ⟨h1, h2⟩ := List.nodup_cons.1 hn
    have hx := hs x List.mem_cons_self
    obtain ⟨s, t, rfl⟩ := List.append_of_mem hx
    have hp : (s ++ x :: t).Perm (x :: (s ++ t)) := List.perm_middle
    refine (List.Perm.cons x (nodup_perm h2 (fun y hy => ?_) ?_)).trans hp.symm
    · have hyb := hp.mem_iff.1 (hs y (List.mem_cons_of_mem _ hy))
      rcases List.mem_cons.1 hyb with rfl | h
      · exact absurd hy h1
      · exact h
    · have := hp.length_eq
      simp only [List.length_cons] at this hl
      omega
theorem part_iff {boxes : List ByteArray} (hb : boxes.Nodup) {parts : List (List ByteArray)} : PartP boxes parts ↔ (∀ p ∈ parts, p ≠ []) ∧ parts.flatten.length = boxes.length ∧ parts.flatten.Nodup ∧ ∀ x ∈ parts.flatten, x ∈ boxes := by
  unfold PartP
  constructor
  · rintro ⟨h1, h2⟩
    exact ⟨h1, h2.length_eq, h2.nodup_iff.2 hb, fun x hx => h2.mem_iff.1 hx⟩
  · rintro ⟨h1, h2, h3, h4⟩
    exact ⟨h1, nodup_perm h3 h4 h2⟩
end Go.Proofs.YtnglkhnfmbnfeaaGreat
namespace Go.Proofs.YtnglkhnfmbnfeaaGreat
open Go Go.SK
def doneL (l : List EntD) (go : List (Option GhostE)) : List (ByteArray × Value) := (l.zip go).filterMap fun x => x.2.map fun g => (x.1.bill.number, Value.pointer (some ⟨g.e, 0, none⟩))
theorem doneL_set {g : GhostE} : ∀ {l : List EntD} {go : List (Option GhostE)} {i : Nat} {x : EntD}, l[i]? = some x → go[i]? = some none → (doneL l go ++ [(x.bill.number, Value.pointer (some ⟨g.e, 0, none⟩))]).Perm (doneL l (go.set i (some g)))
  | [], _, _, _, h, _ => by simp at h
  | _ :: _, [], _, _, _, h => by simp at h
  | a :: l, o :: go, 0, x, h, hg => by
    simp at h hg
    subst h hg
    simpa [doneL] using List.perm_append_comm (l₁ := doneL l go) (l₂ := [(a.bill.number, Value.pointer (some ⟨g.e, 0, none⟩))])
  | a :: l, o :: go, i + 1, x, h, hg => by
    have ih := doneL_set (g := g) (l := l) (go := go) (i := i) (x := x) (by simpa using h) (by simpa using hg)
    cases o with
    | none => simpa [doneL] using ih
    | some u => simpa [doneL] using ih
theorem doneL_all : ∀ {l : List EntD} {gs : List GhostE}, l.length = gs.length → doneL l (gs.map some) = mapOf l gs
  | [], [], _ => rfl
  | [], _ :: _, h => by simp at h
  | _ :: _, [], h => by simp at h
  | a :: l, g :: gs, h => by
    have ih := doneL_all (l := l) (gs := gs) (by simpa using h)
    simp only [doneL, mapOf] at ih ⊢
    simp [ih]
theorem doneL_mem {l : List EntD} {go : List (Option GhostE)} {e : ByteArray × Value} (h : e ∈ doneL l go) : ∃ (i : Nat) (x : EntD) (g : GhostE), l[i]? = some x ∧ go[i]? = some (some g) ∧ e.1 = x.bill.number := by
  obtain ⟨⟨x, o⟩, hz, he⟩ := List.mem_filterMap.1 h
  obtain ⟨i, hi⟩ := List.getElem?_of_mem hz
  rw [List.getElem?_zip_eq_some] at hi
  obtain ⟨g, hg, rfl⟩ := Option.map_eq_some_iff.1 he
  dsimp only at hg hi
  exact ⟨i, x, g, hi.1, by rw [hi.2, hg], rfl⟩
theorem mget_none {es : List (ByteArray × Value)} {k : ByteArray} (h : ∀ e ∈ es, k ≠ e.1) : mget es k = none := by
  unfold mget
  rw [Option.map_eq_none_iff, List.find?_eq_none]
  intro e he
  simpa using h e he
theorem all_some : ∀ {go : List (Option GhostE)}, (∀ o ∈ go, o ≠ none) → ∃ gs : List GhostE, go = gs.map some
  | [], _ => ⟨[], rfl⟩
  | none :: _, h => absurd rfl (h none List.mem_cons_self)
  | some g :: go, h => by
    obtain ⟨gs, rfl⟩ := all_some (go := go) fun o ho => h o (List.mem_cons_of_mem _ ho)
    exact ⟨g :: gs, rfl⟩
theorem set_chain {x : EntD} {g : GhostE} (h1 : x.ps.length = 3) (h2 : g.vcs.length = 3) {k : Nat} (hk : k < 3) (v : Value) : (entCells x g).set (10 + k * 3 + 2) v = entCells x { g with vcs := g.vcs.set k v } := by
  obtain ⟨bill, state, ps⟩ := x
  obtain ⟨e, vb, vp, vcs⟩ := g
  dsimp only at h1 h2
  obtain ⟨a, b, c, rfl⟩ := three_cases h1
  obtain ⟨u, y, z, rfl⟩ := three_cases h2
  match k, hk with
  | 0, _ => rfl
  | 1, _ => rfl
  | 2, _ => rfl
theorem set_bill (x : EntD) (g : GhostE) (e : Nat) (ub up : Value) : setMany (entCells x g) 0 (encB x.bill ub up) = entCells x ⟨e, ub, up, g.vcs⟩ := rfl
theorem entCells_one {w : World} {x : EntD} {g : GhostE} (h : EntOk w x g) : ∀ u ∈ entCells x g, u.oneCell' = true := by
  have h1 := own_one h.boxesO
  have h2 := own_one h.parentsO
  have hc := h.chains
  obtain ⟨bill, state, ps⟩ := x
  obtain ⟨e, vb, vp, vcs⟩ := g
  obtain ⟨a, b, c, rfl⟩ := three_cases h.three
  obtain ⟨u, y, z, rfl⟩ := three_cases h.three'
  have c0 := own_one (hc 0 a u rfl rfl)
  have c1 := own_one (hc 1 b y rfl rfl)
  have c2 := own_one (hc 2 c z rfl rfl)
  intro q hq
  simp [entCells, encB, papCells] at hq
  rcases hq with rfl | rfl | rfl | rfl | rfl | rfl | rfl | rfl | rfl | rfl | rfl | rfl | rfl | rfl | rfl | rfl | rfl | rfl | rfl <;> first | rfl | assumption
structure CopyI (N : Nat) (w' : World) (r : RegD) (p m : Nat) (go : List (Option GhostE)) (es : List (ByteArray × Value)) : Prop where
  len : r.l.length = go.length
  blk : Blk w' p [.string r.carrier, .map (some m)] 80
  map : Mp w' m es
  perm : es.Perm (doneL r.l go)
  ents : ∀ (i : Nat) (x : EntD) (g : GhostE), r.l[i]? = some x → go[i]? = some (some g) → EntOk w' x g
  fpn : ∀ (i : Nat) (g : GhostE), go[i]? = some (some g) → g.Nd ∧ m ∉ g.fp ∧ m ∉ g.rd ∧ p ∉ g.fp ∧ p ∉ g.rd
  disj : ∀ (i j : Nat) (g g' : GhostE), i ≠ j → go[i]? = some (some g) → go[j]? = some (some g') → ∀ b ∈ g.fp, b ∉ g'.fp
  rdn : ∀ (i j : Nat) (g g' : GhostE), go[i]? = some (some g) → go[j]? = some (some g') → ∀ b ∈ g.fp, b ∉ g'.rd
  new : ∀ (i : Nat) (g : GhostE), go[i]? = some (some g) → ∀ b, b ∈ g.fp ∨ b ∈ g.rd → N ≤ b
  pm : p ≠ m
  newp : N ≤ p ∧ N ≤ m
theorem CopyI.ex {N : Nat} {w' w'' : World} {r : RegD} {p m : Nat} {go : List (Option GhostE)} {es : List (ByteArray × Value)} (h : CopyI N w' r p m go es) (hx : Ex w' w'') : CopyI N w'' r p m go es :=
  ⟨h.len, h.blk.ex hx, h.map.ex hx, h.perm, fun i x g h1 h2 => (h.ents i x g h1 h2).ex hx, h.fpn, h.disj, h.rdn, h.new, h.pm, h.newp⟩
theorem CopyI.add {N : Nat} {w' w'' : World} {r : RegD} {p m : Nat} {go : List (Option GhostE)} {es : List (ByteArray × Value)} (h : CopyI N w' r p m go es) {M : Nat} (hM : N ≤ M) (hold : ∀ (i : Nat) (g : GhostE), go[i]? = some (some g) → ∀ b, b ∈ g.fp ∨ b ∈ g.rd → b < M) (hpm : p < M ∧ m < M) {i : Nat} {x : EntD} {g : GhostE} (hi : r.l[i]? = some x) (hg : go[i]? = some none)
    (hx : Ext (· = m) w' w'') (hm : Mp w'' m (es ++ [(x.bill.number, .pointer (some ⟨g.e, 0, none⟩))])) (hE : EntOk w'' x g) (hn : g.Nd) (hnew : ∀ b, b ∈ g.fp ∨ b ∈ g.rd → M ≤ b) (hd : ∀ b ∈ g.fp, b ∉ g.rd) : CopyI N w'' r p m (go.set i (some g)) (es ++ [(x.bill.number, .pointer (some ⟨g.e, 0, none⟩))]) := by
  have hgl : i < go.length := (List.getElem?_eq_some_iff.1 hg).1
  have get : ∀ (j : Nat) (u : GhostE), (go.set i (some g))[j]? = some (some u) → (j = i ∧ u = g) ∨ (j ≠ i ∧ go[j]? = some (some u)) := by
    intro j u hu
    by_cases e : i = j
    · subst e
      rw [List.getElem?_set_self hgl] at hu
      cases hu; exact .inl ⟨rfl, rfl⟩
    · rw [List.getElem?_set_ne e] at hu; exact .inr ⟨fun h => e h.symm, hu⟩
  refine ⟨by rw [h.len, List.length_set], h.blk.ext hx (fun e => h.pm e), hm, (h.perm.append_right _).trans (doneL_set hi hg), ?_, ?_, ?_, ?_, ?_, h.pm, h.newp⟩
  · intro j y u hy hu
    rcases get j u hu with ⟨rfl, rfl⟩ | ⟨_, hu⟩
    · rw [hi] at hy; cases hy; exact hE
    · exact (h.ents j y u hy hu).ext hx (fun b hb e => (h.fpn j u hu).2.1 (e ▸ hb)) (fun b hb e => (h.fpn j u hu).2.2.1 (e ▸ hb))
  · intro j u hu
    rcases get j u hu with ⟨rfl, rfl⟩ | ⟨_, hu⟩
    · exact ⟨hn, fun hb => by have := hnew _ (.inl hb); omega, fun hb => by have := hnew _ (.inr hb); omega, fun hb => by have := hnew _ (.inl hb); omega, fun hb => by have := hnew _ (.inr hb); omega⟩
    · exact h.fpn j u hu
  · intro j k u v hjk hu hv b hb hb'
    rcases get j u hu with ⟨e1, e2⟩ | ⟨_, hu'⟩ <;> rcases get k v hv with ⟨e3, e4⟩ | ⟨_, hv'⟩
    · exact hjk (e1.trans e3.symm)
    · subst e2; have := hnew b (.inl hb); have := hold k v hv' b (.inl hb'); omega
    · subst e4; have := hnew b (.inl hb'); have := hold j u hu' b (.inl hb); omega
    · exact h.disj j k u v hjk hu' hv' b hb hb'
  · intro j k u v hu hv b hb hb'
    rcases get j u hu with ⟨e1, e2⟩ | ⟨_, hu'⟩ <;> rcases get k v hv with ⟨e3, e4⟩ | ⟨_, hv'⟩
    · subst e2 e4; exact hd b hb hb'
    · subst e2; have := hnew b (.inl hb); have := hold k v hv' b (.inr hb'); omega
    · subst e4; have := hnew b (.inr hb'); have := hold j u hu' b (.inl hb); omega
    · exact h.rdn j k u v hu' hv' b hb hb'
  · intro j u hu b hb
    rcases get j u hu with ⟨rfl, rfl⟩ | ⟨_, hu⟩
    · exact Nat.le_trans hM (hnew b hb)
    · exact h.new j u hu b hb
theorem CopyI.rep {N : Nat} {w' : World} {r : RegD} {p m : Nat} {gs : List GhostE} {es : List (ByteArray × Value)} (h : CopyI N w' r p m (gs.map some) es) (hN : r.Nd) : Rep w' p r m gs ∧ ∀ b ∈ foot p m gs, N ≤ b := by
  have hl : r.l.length = gs.length := by rw [h.len, List.length_map]
  have get : ∀ (i : Nat) (g : GhostE), gs[i]? = some g → (gs.map some)[i]? = some (some g) := fun i g hg => by rw [List.getElem?_map, hg]; rfl
  refine ⟨⟨h.blk, ⟨es, h.map, by rw [← doneL_all hl]; exact h.perm⟩, hN, hl, fun i x g hx hg => h.ents i x g hx (get i g hg), fun i g hg => h.fpn i g (get i g hg), fun i j g g' hij hg hg' => h.disj i j g g' hij (get i g hg) (get j g' hg'), fun i j g g' hg hg' => h.rdn i j g g' (get i g hg) (get j g' hg'), h.pm⟩, ?_⟩
  intro b hb
  rcases foot_mem.1 hb with rfl | rfl | ⟨i, g, hg, hb⟩
  · exact h.newp.1
  · exact h.newp.2
  · exact h.new i g (get i g hg) b hb
section
variable {w : World} {p : Nat} {r : RegD} {m : Nat} {gs : List GhostE}
set_option maxHeartbeats 4000000 in
theorem reg_Copy (hR : Rep w p r m gs) (hs : r.Small) : Ret Tryz.prog 94 [.pointer (some ⟨p, 0, none⟩)] w fun v w' =>
    (∃ p' m' gs', v = .pointer (some ⟨p', 0, none⟩) ∧ Rep w' p' r m' gs' ∧ ∀ b ∈ foot p' m' gs', w.heap.size ≤ b) ∧ Ex w w' := by
  obtain ⟨es, hmp, hpm⟩ := hR.map
  have hkeys := hR.keys
  have hnes : (es.map (·.1)).Nodup := (hpm.map _).nodup_iff.2 hkeys
  refine ret_of Tryz.func94 Tryz.ntmps94 rfl rfl rfl ?_
  (repeat (first | refine lw_pure hT rfl ?_ | refine lw_nil ?_ | refine cw_seq ?_ | refine cw_region ?_ | refine qw_then ?_))
  refine lw_load hT rfl rfl (v := .string r.carrier) (hR.blk.cell 0) ?_
  skip
  refine lw_call hT rfl rfl (reg_New w r.carrier) ?_
  rintro _ w1 ⟨p', m', rfl, hR', hp', hm', hx1⟩
  (repeat (first | refine lw_pure hT rfl ?_ | refine lw_nil ?_ | refine cw_seq ?_ | refine cw_region ?_ | refine qw_then ?_))
  refine lw_load hT rfl rfl (v := .map (some m)) ((hR.blk.ex hx1).cell 1) ?_
  skip
  refine lw_range mp78 rfl (hmp.ex hx1) ?_
  intro bi w2 hbi hI2 hx2 hs2
  obtain ⟨es0, hmp0, hpm0⟩ := hR'.map
  have hes0 : es0 = [] := List.Perm.eq_nil (by simpa [mapOf] using hpm0)
  subst hes0
  have hml' := hmp0.lt
  have hpl' := hR'.blk.lt
  have hl1 := hx1.size
  have hl2 := hx2.size
  have hl12 := hmp.lt
  have hI0 : CopyI w.heap.size w2 r p' m' (r.l.map fun _ => none) [] := by
    refine ⟨by simp, hR'.blk.ex hx2, hmp0.ex hx2, ?_, ?_, ?_, ?_, ?_, ?_, hR'.pm, ⟨hp', hm'⟩⟩
    · have : doneL r.l (r.l.map fun _ => none) = [] := by
        unfold doneL
        rw [List.filterMap_eq_nil_iff]
        rintro ⟨x, o⟩ hz
        have := List.of_mem_zip hz
        simp at this
        simp [this.2]
      rw [this]
    all_goals
      intro i
      intros
      simp_all
  (repeat (first | refine lw_nil ?_ | refine qw_then ?_ | refine cw_block ?_))
  refine cw_loop (fun _ : List Nat => [(3, .pointer (some ⟨p', 0, none⟩)), (17, .pointer (some ⟨bi, 0, none⟩))])
    (fun seen w' => Ex w w' ∧ w2.heap.size ≤ w'.heap.size ∧ Itr w' bi m es.length seen ∧ (∀ j ∈ seen, j < es.length) ∧ ∃ go es', CopyI w.heap.size w' r p' m' go es' ∧ (∀ (i : Nat) (x : EntD), r.l[i]? = some x → (go[i]? = some none ↔ ¬ ∃ j ∈ seen, ∃ e, es[j]? = some e ∧ e.1 = x.bill.number)) ∧
      (∀ (i : Nat) (g : GhostE), go[i]? = some (some g) → bi ∉ g.fp ∧ bi ∉ g.rd)) (fun seen => left es.length seen) [] (by repeat (first | exact trivial | refine ⟨rfl, ?_⟩))
    ⟨hx1.trans hx2, Nat.le_refl _, hI2, by simp, _, [], hI0, ?_, ?_⟩ ?_
  · intro i x hi; simp [hi]
  · intro i g hg; simp at hg
  rintro seen w3 ⟨hx3, hl3, hI3, hlt, go, es', hC, hsn, hbif⟩
  (repeat (first | refine cw_seq ?_ | refine cw_region ?_))
  refine lw_next rfl (hmp.ex hx3) hI3 hlt (fun hall => ?_) ?_
  · (repeat (first | refine lw_pure hT rfl ?_ | refine lw_nil ?_ | refine cw_seq ?_ | refine cw_region ?_ | refine qw_then ?_ | refine cw_ret ?_ | refine cw_exit ?_ | refine qw_block_exit ?_ | refine qw_then_exit ?_ | (refine cw_cond_f rfl ?_ ?_; focus with_reducible (first | rfl | exact Bool.not_false | exact Bool.not_true))))
    have hne : ∀ o ∈ go, o ≠ none := by
      intro o ho e
      subst e
      obtain ⟨i, hi⟩ := List.getElem?_of_mem ho
      have hil : i < r.l.length := by rw [hC.len]; exact (List.getElem?_eq_some_iff.1 hi).1
      refine (hsn i r.l[i] (List.getElem?_eq_getElem hil)).1 hi ?_
      have hig : i < gs.length := hR.len ▸ hil
      have hin : (r.l[i].bill.number, Value.pointer (some ⟨gs[i].e, 0, none⟩)) ∈ mapOf r.l gs := by
        refine List.mem_map.2 ⟨(r.l[i], gs[i]), List.mem_of_getElem? (i := i) ?_, rfl⟩
        rw [List.getElem?_zip_eq_some]; exact ⟨List.getElem?_eq_getElem hil, List.getElem?_eq_getElem hig⟩
      obtain ⟨j, hj⟩ := List.getElem?_of_mem (hpm.mem_iff.2 hin)
      exact ⟨j, hall j (List.getElem?_eq_some_iff.1 hj).1, _, hj, rfl⟩
    obtain ⟨gs', rfl⟩ := all_some hne
    obtain ⟨h1, h2⟩ := hC.rep hR.nd
    exact qw_ret rfl ⟨⟨p', m', gs', rfl, h1, h2⟩, hx3⟩
  · intro j e w4 hj hjs hI4 hx4 hs4 hent
    obtain ⟨i, hi⟩ := List.getElem?_of_mem (hpm.mem_iff.1 (List.mem_of_getElem? hj))
    obtain ⟨y, g, h1, h2, rfl⟩ := mapOf_get hi
    have hjl := (List.getElem?_eq_some_iff.1 hj).1
    have hgo : go[i]? = some none := by
      refine (hsn i y h1).2 ?_
      rintro ⟨j', hj', e', he', hk⟩
      have hne : j' ≠ j := fun h => hjs (h ▸ hj')
      have hj'l := (List.getElem?_eq_some_iff.1 he').1
      have a1 : (es.map (·.1))[j']? = some y.bill.number := by rw [List.getElem?_map, he']; simp [hk]
      have a2 : (es.map (·.1))[j]? = some y.bill.number := by rw [List.getElem?_map, hj]; rfl
      exact hne ((List.getElem?_inj (by simpa using hj'l) hnes).1 (a1.trans a2.symm))
    have hE := hR.ents i y g h1 h2
    have hx04 : Ex w w4 := hx3.up_new hx4 (fun i hi => by omega)
    have hC4 : CopyI w.heap.size w4 r p' m' go es' := by
      refine ⟨hC.len, hC.blk.ext hx4 (by omega), hC.map.ext hx4 (by omega), hC.perm, fun i x g hx hg => (hC.ents i x g hx hg).ext hx4 (fun b hb e => (hbif i g hg).1 (e ▸ hb)) (fun b hb e => (hbif i g hg).2 (e ▸ hb)), hC.fpn, hC.disj, hC.rdn, hC.new, hC.pm, hC.newp⟩
    have hE4 := hE.ex hx04
    have h3 := hE.three
    have h3' := hE.three'
    have hsm := hs y (List.mem_of_getElem? h1)
    have hl4 := hx04.size
    (repeat (first | refine lw_pure hT rfl ?_ | refine lw_nil ?_ | refine cw_seq ?_ | refine cw_region ?_ | refine qw_then ?_ | refine cw_skip ?_ | refine cw_block ?_ | (refine cw_cond_t rfl ?_ ?_; focus with_reducible (first | rfl | exact Bool.not_false | exact Bool.not_true))))
    refine lw_entry rfl hent ?_
    (repeat (first | refine lw_pure hT rfl ?_ | refine lw_nil ?_ | refine cw_seq ?_ | refine cw_region ?_ | refine qw_then ?_))
    refine lw_load_agg hT rfl rfl (by rw [entCells_len h3 h3']; rfl) (vs := entCells y g) (by have := hE4.blk.rd 0 19; rw [List.drop_zero, List.take_of_length_le (Nat.le_of_eq (entCells_len h3 h3'))] at this; exact this) ?_
    skip
    refine lw_alloc z87 ?_
    intro bd w5 hbbd hbd hx5 hs5
    skip
    refine lw_store_agg hT rfl rfl rfl (by rw [entCells_len h3 h3']; rfl) (entCells_one hE4) hbd (by rw [entCells_len h3 h3']; decide) ?_
    intro w6 hbd6 hx6 hs6
    replace hbd6 : Blk w6 bd (entCells y g) 87 := by
      have : ∀ (a : List Value), a.length = 19 → ∀ (c : List Value), c.length = 19 → setMany a 0 c = c := by
        intro a ha c hc
        match a, ha, c, hc with
        | [_, _, _, _, _, _, _, _, _, _, _, _, _, _, _, _, _, _, _], _, [_, _, _, _, _, _, _, _, _, _, _, _, _, _, _, _, _, _, _], _ => rfl
      rwa [this _ rfl _ (entCells_len h3 h3')] at hbd6
    have hx46 : Ex w4 w6 := hx5.up_new hx6 (fun i h => by omega)
    (repeat (first | refine lw_pure hT rfl ?_ | refine lw_nil ?_ | refine cw_seq ?_ | refine cw_region ?_ | refine qw_then ?_))
    refine lw_load_agg hT rfl rfl rfl (vs := encB y.bill g.vb g.vp) ((hE4.blk.ex hx46).rd 0 9) ?_
    skip
    refine lw_call hT rfl rfl (reg_own w6 (hE4.boxes.ex hx46) (hE4.parents.ex hx46) hsm.2.1 hsm.2.2) ?_
    rintro _ w7 ⟨ub, up, rfl, hub, hup, hx7⟩
    (repeat (refine lw_pure hT rfl ?_))
    refine lw_store_agg hT rfl rfl rfl rfl (encB_one (A := fun _ => True) (w := w) (own_one hub) (own_one hup)) (hbd6.ex hx7) (by rw [entCells_len h3 h3']; show (9 : Nat) ≤ 19; decide) ?_
    intro w8 hbd8 hx8 hs8
    rw [set_bill y g bd ub up] at hbd8
    have hl46 := hx46.size
    have hl7 := hx7.size
    have hx48 : Ex w4 w8 := (hx46.trans hx7).up_new hx8 (fun i h => by omega)
    have hbdl := hbd6.lt
    have hub8 := own_ext hub hx8 (fun k hk e => by have := own_base hub hk; omega)
    have hup8 := own_ext hup hx8 (fun k hk e => by have := own_base hup hk; omega)
    (repeat (first | refine lw_pure hT rfl ?_ | refine lw_nil ?_ | refine cw_seq ?_ | refine cw_region ?_ | refine qw_then ?_ | refine cw_block ?_))
    refine cw_loop (fun k : Nat => [(3, .pointer (some ⟨p', 0, none⟩)), (4, .string y.bill.number), (6, .pointer (some ⟨bd, 0, none⟩)), (17, .pointer (some ⟨bi, 0, none⟩)), (32, .int .i64 (k : Nat))])
      (fun k w' => k ≤ 3 ∧ Ex w4 w' ∧ w8.heap.size ≤ w'.heap.size ∧ ∃ us, us.length = 3 ∧ Blk w' bd (entCells y ⟨bd, ub, up, us⟩) 87 ∧ w'.ownsRow w6.heap.size 9 1 ub y.bill.boxes.length (y.bill.boxes.map Value.string) ∧
        w'.ownsRow w6.heap.size 9 1 up y.bill.parents.length (y.bill.parents.map Value.string) ∧ (∀ j, k ≤ j → us[j]? = g.vcs[j]?) ∧
        (∀ (j : Nat) (q : PapD) (v : Value), j < k → y.ps[j]? = some q → us[j]? = some v → w'.ownsRow w8.heap.size 139 4 v q.chain.length (q.chain.map encE).flatten) ∧
        (∀ (j j' : Nat) (v v' : Value) (b : Nat), j < k → j' < k → j ≠ j' → us[j]? = some v → us[j']? = some v' → v.ownBlock = some b → v'.ownBlock ≠ some b))
      (fun k => 3 - k) 0 (by repeat (first | exact trivial | refine ⟨rfl, ?_⟩)) ⟨Nat.zero_le _, hx48, Nat.le_refl _, g.vcs, h3', hbd8, hub8, hup8, fun _ _ => rfl, fun j _ _ h => by omega, fun j _ _ _ _ h => by omega⟩ ?_
    rintro k w9 ⟨hk, hx49, hl9, us, hus, hbd9, hub9, hup9, hold, hnew, hnd⟩
    (repeat (first | refine lw_pure hT rfl ?_ | refine lw_nil ?_ | refine cw_seq ?_ | refine cw_region ?_ | refine qw_then ?_))
    refine cw_cond rfl (fun e => ?_) (fun e => ?_)
    · have hlt : k < 3 := by have := of_decide_eq_true e; omega
      obtain ⟨q, hq⟩ : ∃ q, y.ps[k]? = some q := ⟨_, List.getElem?_eq_getElem (by rw [h3]; exact hlt)⟩
      obtain ⟨vc, hvc⟩ : ∃ vc, g.vcs[k]? = some vc := ⟨_, List.getElem?_eq_getElem (by rw [h3']; exact hlt)⟩
      have husk : us[k]? = some vc := (hold k (Nat.le_refl _)).trans hvc
      have hch := (hE4.chains k q vc hq hvc)
      have hc : w9.cell? ⟨bd, 0 + 10 + k * 3 + 2, none⟩ = some vc := by
        rw [hbd9.cell]
        obtain ⟨q', vc', hq', hvc', _, _, hcc⟩ := entCells_paper (x := y) (g := ⟨bd, ub, up, us⟩) h3 hus hlt
        rw [show 0 + 10 + k * 3 + 2 = 10 + k * 3 + 2 from by omega, hcc]
        rw [← husk]; exact hvc'.symm
      have hcl := (hsm.1 q (List.mem_of_getElem? hq))
      (repeat (first | refine lw_pure hT rfl ?_ | refine lw_nil ?_ | refine cw_seq ?_ | refine cw_region ?_ | refine qw_then ?_ | refine cw_skip ?_ | refine cw_block ?_))
      refine lw_index_arr hT rfl rfl rfl k rfl hlt ?_
      (repeat (refine lw_pure hT rfl ?_))
      refine lw_load hT rfl rfl hc ?_
      skip
      refine lw_call hT rfl rfl (clone_end w9 ((hch.sl (A := fun _ => True) fun _ _ => trivial).ex hx49) hcl) ?_
      rintro u w10 ⟨hu, hx10⟩
      (repeat (refine lw_pure hT rfl ?_))
      refine lw_index_arr hT rfl rfl rfl k rfl hlt ?_
      (repeat (refine lw_pure hT rfl ?_))
      refine lw_store (size := 1) hT rfl rfl rfl (own_one hu) (hbd9.ex hx10) (show 0 + 10 + k * 3 + 2 < _ by rw [entCells_len h3 hus]; omega) ?_
      intro w11 hbd11 hx11 hs11
      have hl10 := hx10.size
      have hl49 := hx49.size
      have hbd9l := hbd9.lt
      rw [show 0 + 10 + k * 3 + 2 = 10 + k * 3 + 2 from by omega, set_chain h3 hus hlt] at hbd11
      have keep : ∀ {base e size n : Nat} {v : Value} {xs : List Value}, w9.ownsRow base e size v n xs → bd < base → w11.ownsRow base e size v n xs := fun h hb => own_ext (own_ex h hx10) hx11 (fun k hk e => by have := own_base h hk; omega)
      have hu11 := own_ext hu hx11 (fun k hk e => by have := own_base hu hk; omega)
      (repeat (first | (refine lw_add rfl rfl ?_ ?_ ?_; iterate 2 omega) | refine lw_pure hT rfl ?_ | refine lw_nil ?_ | refine cw_region ?_ | refine qw_then ?_ | refine qw_block ?_))
      refine qw_round (k + 1) (by repeat (first | exact trivial | refine ⟨rfl, ?_⟩)) ⟨hlt, (hx49.trans hx10).up_new hx11 (fun i h => by omega), by have := hx11.size; omega, us.set k u, by simp [hus], hbd11, keep hub9 (by omega), keep hup9 (by omega), fun j hj => ?_, fun j q' v hj hq' hv => ?_, fun j j' v v' b hj hj' hjj hv hv' hb hb' => ?_⟩ (by omega)
      · rw [List.getElem?_set_ne (by omega)]; exact hold j (by omega)
      · by_cases ej : k = j
        · subst ej
          rw [List.getElem?_set_self (by rw [hus]; exact hlt)] at hv
          cases hv
          rw [hq] at hq'; cases hq'
          exact own_mono hu11 hl9
        · rw [List.getElem?_set_ne ej] at hv
          exact keep (hnew j q' v (by omega) hq' hv) (by omega)
      · have old : ∀ (j : Nat) (v : Value) (b : Nat), j < k → us[j]? = some v → v.ownBlock = some b → b < w9.heap.size := by
          intro j v b hj hv hb
          obtain ⟨q', hq'⟩ : ∃ q, y.ps[j]? = some q := ⟨_, List.getElem?_eq_getElem (by rw [h3]; omega)⟩
          exact (own_base (hnew j q' v hj hq' hv) hb).2
        by_cases ej : k = j
        · subst ej
          rw [List.getElem?_set_self (by rw [hus]; exact hlt)] at hv
          rw [List.getElem?_set_ne (by omega)] at hv'
          cases hv
          have := own_base hu hb
          have := old j' v' b (by omega) hv' hb'
          omega
        · rw [List.getElem?_set_ne ej] at hv
          by_cases ej' : k = j'
          · subst ej'
            rw [List.getElem?_set_self (by rw [hus]; exact hlt)] at hv'
            cases hv'
            have := own_base hu hb'
            have := old j v b (by omega) hv hb
            omega
          · rw [List.getElem?_set_ne ej'] at hv'
            exact hnd j j' v v' b (by omega) (by omega) hjj hv hv' hb hb'
    · have ek : k = 3 := by have := of_decide_eq_false e; omega
      subst ek
      have hC9 := hC4.ex hx49
      have hE9 : EntOk w9 y ⟨bd, ub, up, us⟩ := by
        refine ⟨hbd9, own_mono hub9 (Nat.zero_le _), own_mono hup9 (Nat.zero_le _), h3, hus, fun j q vc hq hvc => ?_⟩
        have hj : j < 3 := by have := (List.getElem?_eq_some_iff.1 hvc).1; rw [show (⟨bd, ub, up, us⟩ : GhostE).vcs = us from rfl, hus] at this; exact this
        exact own_mono (hnew j q vc hj hq hvc) (Nat.zero_le _)
      have hub78 : ∀ b, ub.ownBlock = some b → w6.heap.size ≤ b ∧ b < w7.heap.size := fun b hb => own_base hub hb
      have hup78 : ∀ b, up.ownBlock = some b → w6.heap.size ≤ b ∧ b < w7.heap.size := fun b hb => own_base hup hb
      have hvb : ∀ (j : Nat) (v : Value) (b : Nat), us[j]? = some v → v.ownBlock = some b → w8.heap.size ≤ b ∧ b < w9.heap.size := by
        intro j v b hv hb
        have hj : j < 3 := by have := (List.getElem?_eq_some_iff.1 hv).1; rw [hus] at this; exact this
        obtain ⟨q', hq'⟩ : ∃ q, y.ps[j]? = some q := ⟨_, List.getElem?_eq_getElem (by rw [h3]; omega)⟩
        exact own_base (hnew j q' v hj hq' hv) hb
      have hNd : (⟨bd, ub, up, us⟩ : GhostE).Nd := by
        refine ⟨fun j v hv hb => ?_, fun j j' v v' b hjj hv hv' hb hb' => ?_⟩
        · have := hvb j v bd hv hb; omega
        · have hj : j < 3 := by have := (List.getElem?_eq_some_iff.1 hv).1; rw [show (⟨bd, ub, up, us⟩ : GhostE).vcs = us from rfl, hus] at this; exact this
          have hj' : j' < 3 := by have := (List.getElem?_eq_some_iff.1 hv').1; rw [show (⟨bd, ub, up, us⟩ : GhostE).vcs = us from rfl, hus] at this; exact this
          exact hnd j j' v v' b hj hj' hjj hv hv' hb hb'
      have hfp : ∀ b, b ∈ (⟨bd, ub, up, us⟩ : GhostE).fp → b = bd ∨ w8.heap.size ≤ b := by
        intro b hb
        rcases GhostE.fp_mem.1 hb with h | ⟨j, v, hv, hb⟩
        · exact .inl h
        · exact .inr (hvb j v b hv hb).1
      have hrd : ∀ b, b ∈ (⟨bd, ub, up, us⟩ : GhostE).rd → w6.heap.size ≤ b ∧ b < w7.heap.size := by
        intro b hb
        rcases GhostE.rd_mem.1 hb with hb | hb
        · exact hub78 b hb
        · exact hup78 b hb
      have hl5 := hx5.size
      have hold4 : ∀ (i : Nat) (g : GhostE), go[i]? = some (some g) → ∀ b, b ∈ g.fp ∨ b ∈ g.rd → b < w4.heap.size := by
        intro i' g' hg' b hb
        have hil : i' < r.l.length := by rw [hC.len]; exact (List.getElem?_eq_some_iff.1 hg').1
        exact (hC4.ents i' _ g' (List.getElem?_eq_getElem hil) hg').lt hb
      have hpl4 := hC4.blk.lt
      have hml4 := hC4.map.lt
      have hnone : mget es' y.bill.number = none := by
        refine mget_none fun e' he' hk => ?_
        obtain ⟨i', x', g', hx', hg', hk'⟩ := doneL_mem (hC.perm.mem_iff.1 he')
        have := hR.nd i i' y x' h1 hx' (hk.trans hk')
        subst this
        rw [hgo] at hg'; cases hg'
      (repeat (first | refine lw_pure hT rfl ?_ | refine cw_region ?_ | refine qw_then ?_ | refine cw_exit ?_ | refine qw_block_exit ?_ | refine qw_then_exit ?_))
      refine lw_load hT rfl rfl (v := .map (some m')) (hC9.blk.cell 1) ?_
      (repeat (refine lw_pure hT rfl ?_))
      refine lw_mapUpdate mp78 rfl rfl rfl hC9.map hnone ?_
      intro w10 hmp10 hx10 hs10
      have hE10 : EntOk w10 y ⟨bd, ub, up, us⟩ := hE9.ext hx10 (fun b hb e => by rcases hfp b hb with h | h <;> omega) (fun b hb e => by have := hrd b hb; omega)
      have hC10 := hC9.add (M := w4.heap.size) hl4 hold4 ⟨hpl4, hml4⟩ h1 hgo hx10 hmp10 hE10 hNd (fun b hb => by
        rcases hb with hb | hb
        · rcases hfp b hb with h | h <;> omega
        · have := hrd b hb; omega) (fun b hb hb' => by
        have := hrd b hb'
        rcases hfp b hb with h | h <;> omega)
      (repeat (first | refine lw_nil ?_ | refine qw_block ?_))
      have hl49 := hx49.size
      refine qw_round (seen ++ [j]) (by repeat (first | exact trivial | refine ⟨rfl, ?_⟩)) ⟨(hx04.trans hx49).up_new hx10 (fun i h => by omega), by have := hx10.size; omega, ((hI4.ex hx49).ext hx10 (by omega)), ?_, go.set i (some ⟨bd, ub, up, us⟩), _, hC10, ?_, ?_⟩ (left_lt hjl hjs)
      · intro k hk; simp at hk; exact hk.elim (fun hk => hlt k hk) (fun e => by subst e; exact hjl)
      · intro i' x' hx'
        by_cases ei : i = i'
        · subst ei
          rw [h1] at hx'; cases hx'
          rw [List.getElem?_set_self (by rw [← hC.len]; exact (List.getElem?_eq_some_iff.1 h1).1)]
          constructor
          · intro h; cases h
          · intro h; exact absurd ⟨j, by simp, _, hj, rfl⟩ h
        · rw [List.getElem?_set_ne ei, hsn i' x' hx']
          constructor
          · rintro h ⟨j', hj', e', he', hk⟩
            simp at hj'
            rcases hj' with hj' | rfl
            · exact h ⟨j', hj', e', he', hk⟩
            · rw [hj] at he'; cases he'
              exact ei (hR.nd i i' y x' h1 hx' hk)
          · rintro h ⟨j', hj', e', he', hk⟩
            exact h ⟨j', by simp [hj'], e', he', hk⟩
      · intro i' g' hg'
        by_cases ei : i = i'
        · subst ei
          rw [List.getElem?_set_self (by rw [← hC.len]; exact (List.getElem?_eq_some_iff.1 h1).1)] at hg'
          cases hg'
          exact ⟨fun h => by rcases hfp _ h with h | h <;> omega, fun h => by have := hrd _ h; omega⟩
        · rw [List.getElem?_set_ne ei] at hg'
          exact hbif i' g' hg'
end
end Go.Proofs.YtnglkhnfmbnfeaaGreat
