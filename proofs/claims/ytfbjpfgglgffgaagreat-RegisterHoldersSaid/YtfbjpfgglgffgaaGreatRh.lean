/- Contracts of package register, eighth part: the originals that are chosen, an original's last day. -/
import Derived.Test.YtfbjpfgglgffgaaGreatRg
set_option linter.unusedVariables false
set_option linter.unusedSimpArgs false
set_option linter.unusedSectionVars false
set_option linter.unnecessarySimpa false
namespace Go.Proofs.YtfbjpfgglgffgaaGreat
open Go Go.SK

def chosenB (index : Int) (k : Nat) : Bool := decide (index = -1) || decide (index = (k : Int))
theorem ixs_eq (index : Int) : (List.range 3).filter (chosenB index) = ixs index := by
  unfold ixs
  have e : List.range 3 = [0, 1, 2] := rfl
  rw [e]
  by_cases h : index = -1
  · subst h; rfl
  · by_cases h0 : index = 0
    · subst h0; rfl
    · by_cases h1 : index = 1
      · subst h1; rfl
      · by_cases h2 : index = 2
        · subst h2; rfl
        · have : ∀ k : Nat, k < 3 → chosenB index k = false := fun k hk => by simp [chosenB, h]; omega
          simp [h, h0, h1, h2, this]
theorem ixs_lt {index : Int} {k : Nat} (h : k ∈ ixs index) : k < 3 := by
  rw [← ixs_eq] at h; simp at h; omega
def ptrP (e k : Nat) : Value := .pointer (some ⟨e, 10 + k * 3, none⟩)
theorem reg_chosen (w : World) (e : Nat) (index : Int) : Ret Tryz.prog 82 [.pointer (some ⟨e, 0, none⟩), .int .i64 index] w fun v w' =>
    w'.ownsRow w.heap.size 99 1 v (ixs index).length ((ixs index).map (ptrP e)) ∧ Ex w w' := by
  refine ret_of Tryz.func82 Tryz.ntmps82 rfl rfl rfl ?_
  (repeat (first | refine lw_pure hT rfl ?_ | refine lw_nil ?_ | refine cw_seq ?_ | refine cw_region ?_ | refine qw_then ?_ | refine cw_block ?_))
  refine cw_loop (α := Nat × Value) (fun s => [(0, .pointer (some ⟨e, 0, none⟩)), (1, .int .i64 index), (7, .int .i64 (s.1 : Nat)), (5, s.2)])
    (fun s w' => Ex w w' ∧ s.1 ≤ 3 ∧ w'.ownsRow w.heap.size 99 1 s.2 ((List.range s.1).filter (chosenB index)).length (((List.range s.1).filter (chosenB index)).map (ptrP e))) (fun s => 3 - s.1) (0, .slice none 0 0) (by repeat (first | exact trivial | refine ⟨rfl, ?_⟩)) ⟨Ext.refl _ _, by omega, World.ownsRow_nil _ _ _ _⟩ ?_
  rintro ⟨j, vo⟩ w1 ⟨hx1, hj, ho⟩
  dsimp only at hx1 hj ho
  (repeat (first | refine lw_pure hT rfl ?_ | refine lw_nil ?_ | refine cw_seq ?_ | refine cw_region ?_ | refine qw_then ?_))
  have hl1 := hx1.size
  refine cw_cond rfl (fun h => ?_) (fun h => ?_)
  · have hlt : j < 3 := by simp at h; omega
    have no : chosenB index j = false → (List.range (j + 1)).filter (chosenB index) = (List.range j).filter (chosenB index) := fun h => by simp [List.range_succ, h]
    have yes : chosenB index j = true → (List.range (j + 1)).filter (chosenB index) = (List.range j).filter (chosenB index) ++ [j] := fun h => by simp [List.range_succ, h]
    have hlen : ((List.range j).filter (chosenB index)).length ≤ 3 := Nat.le_trans (List.length_filter_le _ _) (by simp; omega)
    (repeat (first | refine lw_pure hT rfl ?_ | refine lw_nil ?_ | refine cw_seq ?_ | refine cw_region ?_ | refine qw_then ?_ | refine cw_skip ?_ | refine cw_block ?_))
    refine lw_guard rfl (fun h1 => ?_) (fun h1 => ?_)
    · have hc : chosenB index j = true := by simp at h1; simp [chosenB, h1]
      (repeat (first | refine lw_pure hT rfl ?_ | refine lw_nil ?_ | refine cw_region ?_ | refine qw_then ?_ | (refine lw_goff_t rfl ?_ ?_; focus (first | with_reducible rfl | with_reducible exact Bool.not_false | with_reducible exact Bool.not_true)) | (refine cw_cond_t rfl ?_ ?_; focus (first | with_reducible rfl | with_reducible exact Bool.not_false | with_reducible exact Bool.not_true))))
      refine lw_index_arr hT rfl rfl rfl j rfl hlt ?_
      skip
      refine lw_buildSlice sl119 rfl rfl rfl ?_
      intro bo w4 hbo hb4 hx4 hs4
      replace hb4 : Blk w4 bo [ptrP e j] 99 := hb4
      skip
      have ho4 := own_ex ho hx4
      refine lw_append sl119 (by decide) rfl ho4 rfl (hb4.rd 0 1) rfl (by intro u hu; simp at hu; subst hu; rfl) (by unfold maxLen; omega) (by omega) (by omega) ?_
      intro v' w5 k1 k2 k3 k4
      (repeat (first | (refine lw_add rfl rfl ?_ ?_ ?_; iterate 2 omega) | refine lw_pure hT rfl ?_ | refine lw_nil ?_ | refine cw_region ?_ | refine qw_then ?_ | refine qw_block ?_))
      refine qw_round (α := Nat × Value) (j + 1, v') (by repeat (first | exact trivial | refine ⟨rfl, ?_⟩)) ⟨?_, by omega, ?_⟩ (by simp; omega)
      · refine (hx1.trans hx4).trans' k2 (fun _ _ f => f.elim) (fun i hi g => ?_)
        have := (own_base ho4 g.symm).1
        omega
      · rw [yes hc, List.length_append, List.map_append]; exact k1
    · (repeat (first | refine lw_pure hT rfl ?_ | refine lw_nil ?_ | refine qw_then ?_ | (refine lw_gon_f rfl ?_ ?_; focus (first | with_reducible rfl | with_reducible exact Bool.not_false | with_reducible exact Bool.not_true))))
      refine cw_cond rfl (fun h2 => ?_) (fun h2 => ?_)
      · have hc : chosenB index j = true := by simp at h2; simp [chosenB, h2]
        (repeat (first | refine lw_pure hT rfl ?_ | refine cw_region ?_))
        refine lw_index_arr hT rfl rfl rfl j rfl hlt ?_
        skip
        refine lw_buildSlice sl119 rfl rfl rfl ?_
        intro bo w4 hbo hb4 hx4 hs4
        replace hb4 : Blk w4 bo [ptrP e j] 99 := hb4
        skip
        have ho4 := own_ex ho hx4
        refine lw_append sl119 (by decide) rfl ho4 rfl (hb4.rd 0 1) rfl (by intro u hu; simp at hu; subst hu; rfl) (by unfold maxLen; omega) (by omega) (by omega) ?_
        intro v' w5 k1 k2 k3 k4
        (repeat (first | (refine lw_add rfl rfl ?_ ?_ ?_; iterate 2 omega) | refine lw_pure hT rfl ?_ | refine lw_nil ?_ | refine cw_region ?_ | refine qw_then ?_ | refine qw_block ?_))
        refine qw_round (α := Nat × Value) (j + 1, v') (by repeat (first | exact trivial | refine ⟨rfl, ?_⟩)) ⟨?_, by omega, ?_⟩ (by simp; omega)
        · refine (hx1.trans hx4).trans' k2 (fun _ _ f => f.elim) (fun i hi g => ?_)
          have := (own_base ho4 g.symm).1
          omega
        · rw [yes hc, List.length_append, List.map_append]; exact k1
      · have hc : chosenB index j = false := by simp at h1 h2; simp [chosenB, h1]; omega
        (repeat (first | (refine lw_add rfl rfl ?_ ?_ ?_; iterate 2 omega) | refine lw_pure hT rfl ?_ | refine lw_nil ?_ | refine cw_region ?_ | refine qw_then ?_ | refine cw_skip ?_ | refine qw_block ?_))
        refine qw_round (α := Nat × Value) (j + 1, vo) (by repeat (first | exact trivial | refine ⟨rfl, ?_⟩)) ⟨hx1, by omega, ?_⟩ (by simp; omega)
        rw [no hc]; exact ho
  · have : j = 3 := by simp at h; omega
    subst this
    (repeat (first | refine lw_pure hT rfl ?_ | refine lw_nil ?_ | refine cw_seq ?_ | refine cw_region ?_ | refine qw_then ?_ | refine cw_ret ?_ | refine cw_exit ?_ | refine qw_block_exit ?_ | refine qw_then_exit ?_))
    rw [ixs_eq] at ho
    exact qw_ret rfl ⟨ho, hx1⟩

section
variable {w : World}
theorem reg_until {x : EntD} {g : GhostE} (hE : EntOk w x g) {j : Nat} {q : PapD} (hq : x.ps[j]? = some q) : Ret Tryz.prog 93 [.pointer (some ⟨g.e, 0, none⟩), ptrP g.e j] w fun v w' => v = .int .i64 (untilD x.bill q) ∧ w = w' := by
  have hj : j < 3 := by have := (List.getElem?_eq_some_iff.1 hq).1; rw [hE.three] at this; exact this
  obtain ⟨q', vc, g1, g2, g3, g4, g5⟩ := entCells_paper hE.three hE.three' hj
  rw [hq] at g1; cases g1
  have hch := hE.chains j q vc hq g2
  have hSl := ChainOk.sl (A := fun _ => True) hch (fun _ _ => trivial)
  have hm := hSl.small
  have hb := hE.blk
  unfold ptrP
  obtain ⟨a, cap, rfl, hz, hr⟩ := hSl.is
  simp only [List.length_map] at *
  unfold maxLen at hm
  refine ret_of Tryz.func93 Tryz.ntmps93 rfl rfl rfl ?_
  (repeat (first | refine lw_pure hT rfl ?_ | refine lw_nil ?_ | refine cw_seq ?_ | refine cw_region ?_ | refine qw_then ?_))
  refine lw_load hT rfl rfl (v := .slice a q.chain.length cap) ((hb.cell _).trans g5) ?_
  (repeat (first | refine lw_pure hT rfl ?_ | refine lw_nil ?_ | refine cw_seq ?_ | refine cw_region ?_ | refine qw_then ?_))
  refine cw_cond rfl (fun h => ?_) (fun h => ?_)
  · have h0 : 0 < q.chain.length := by simp at h; omega
    have hne : q.chain.map encE ≠ [] := by intro e; simp at e; simp [e] at h0
    obtain ⟨b, o, rfl, hA, hrd⟩ := hr hne
    have hlt : q.chain.length - 1 < q.chain.length := by omega
    obtain ⟨hlen, hrd⟩ := hrd (q.chain.length - 1) (encE q.chain[q.chain.length - 1]) (by simp [hlt])
    (repeat (first | refine lw_pure hT rfl ?_ | refine cw_seq ?_ | refine cw_region ?_))
    refine lw_load hT rfl rfl (v := .slice (some ⟨b, o, none⟩) q.chain.length cap) ((hb.cell _).trans g5) ?_
    (repeat (first | (refine lw_sub rfl rfl ?_ ?_ ?_; iterate 2 omega) | refine lw_pure hT rfl ?_))
    refine lw_index hT rfl rfl rfl (q.chain.length - 1) (by omega) hlt ?_
    (repeat (refine lw_pure hT rfl ?_))
    refine lw_load hT rfl rfl (v := .int .i64 q.chain[q.chain.length - 1].day) (hrd 3 _ rfl) ?_
    (repeat (first | refine lw_pure hT rfl ?_ | refine lw_nil ?_ | refine qw_then ?_ | refine cw_ret ?_ | refine qw_then_ret ?_))
    refine qw_ret rfl ⟨?_, rfl⟩
    simp only [untilD, oneOr, List.getLast?_eq_getElem?, List.getElem?_eq_getElem hlt]
  · have h0 : q.chain = [] := by simp at h; simpa using h
    (repeat (first | refine lw_pure hT rfl ?_ | refine cw_seq ?_ | refine cw_region ?_ | refine qw_then ?_ | refine cw_skip ?_))
    refine lw_load hT rfl rfl (v := .int .i64 x.bill.issued) (hb.cell 7) ?_
    (repeat (first | refine lw_pure hT rfl ?_ | refine lw_nil ?_ | refine qw_then ?_ | refine cw_ret ?_))
    refine qw_ret rfl ⟨?_, rfl⟩
    simp only [untilD, oneOr, h0]; rfl
end
end Go.Proofs.YtfbjpfgglgffgaaGreat
