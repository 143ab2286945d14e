/- Contracts of package register, sixth part: originals, the bill of a box. -/
import Derived.Test.YtfbjpfgglgffgaaGreatRe
set_option linter.unusedVariables false
set_option linter.unusedSimpArgs false
set_option linter.unusedSectionVars false
set_option linter.unnecessarySimpa false
namespace Go.Proofs.YtfbjpfgglgffgaaGreat
open Go Go.SK

section
variable {w : World} {p : Nat} {r : RegD} {m : Nat} {gs : List GhostE}
def origRow (n : ByteArray) (q : PapD) (i : Nat) : List Value := [.string n, .int .i64 (i : Nat), .int .i64 q.state, .string q.holder]
def RegD.origsOf (r : RegD) (n : ByteArray) : List (PapD × Nat) := match r.at? n with
  | none => []
  | some e => e.ps.zipIdx
theorem orig_take {n : ByteArray} {ps : List PapD} {j : Nat} {q : PapD} (h : ps[j]? = some q) : ((ps.zipIdx.take (j + 1)).map fun x => origRow n x.1 x.2).flatten = ((ps.zipIdx.take j).map fun x => origRow n x.1 x.2).flatten ++ origRow n q j := by
  have : ps.zipIdx[j]? = some (q, j) := by simp [h]
  rw [List.take_add_one, this]; simp
theorem reg_Originals (hR : Rep w p r m gs) (num : ByteArray) : Ret Tryz.prog 19 [.pointer (some ⟨p, 0, none⟩), .string num] w fun v w' =>
    w'.ownsRow w.heap.size 54 4 v (r.origsOf num).length ((r.origsOf num).map fun x => origRow num x.1 x.2).flatten ∧ Ex w w' := by
  refine ret_of Tryz.func19 Tryz.ntmps19 rfl rfl rfl ?_
  obtain ⟨es, hmp, hpm⟩ := hR.map
  (repeat (first | refine lw_pure hT rfl ?_ | refine lw_nil ?_ | refine cw_seq ?_ | refine cw_region ?_ | refine qw_then ?_))
  refine lw_load hT rfl rfl (v := .map (some m)) (hR.blk.cell 1) ?_
  (repeat (refine lw_pure hT rfl ?_))
  rcases hR.at num with ⟨h1, h2⟩ | ⟨i, x, g, hA⟩
  · refine lw_lookup_ok_none mp78 rfl rfl hmp ((hR.get hpm _).trans h2) ?_
    (repeat (first | refine lw_pure hT rfl ?_ | refine lw_nil ?_ | refine cw_seq ?_ | refine cw_region ?_ | refine qw_then ?_ | refine cw_ret ?_ | refine qw_then_ret ?_ | (refine cw_cond_t rfl ?_ ?_; focus (first | with_reducible rfl | with_reducible exact Bool.not_false | with_reducible exact Bool.not_true))))
    refine qw_ret rfl ⟨?_, Ext.refl _ _⟩
    simp only [RegD.origsOf, h1]
    exact World.ownsRow_nil _ _ _ _
  · refine lw_lookup_ok_some mp78 rfl rfl hmp ((hR.get hpm _).trans hA.get) ?_
    have hE := hR.ents i x g hA.l hA.gi
    have e3 : (r.origsOf num).length = 3 := by simp only [RegD.origsOf, hA.at_]; simp [hE.three]
    have e4 : r.origsOf num = x.ps.zipIdx := by simp only [RegD.origsOf, hA.at_]
    obtain ⟨q0, q1, q2, hq⟩ := three_cases hE.three
    obtain ⟨v0, v1, v2, hv⟩ := three_cases hE.three'
    have e : entCells x g = encB x.bill g.vb g.vp ++ .int .i64 x.state :: papCells [q0, q1, q2] [v0, v1, v2] := by rw [← hq, ← hv]; rfl
    have hb := hE.blk
    rw [e] at hb
    rw [e3, e4]
    (repeat (first | refine lw_pure hT rfl ?_ | refine lw_nil ?_ | refine cw_seq ?_ | refine cw_region ?_ | refine qw_then ?_ | refine cw_skip ?_ | (refine cw_cond_f rfl ?_ ?_; focus (first | with_reducible rfl | with_reducible exact Bool.not_false | with_reducible exact Bool.not_true))))
    refine lw_load_agg hT rfl rfl rfl (vs := papCells [q0, q1, q2] [v0, v1, v2]) (hb.rd 10 9) ?_
    (repeat (first | refine lw_pure hT rfl ?_ | refine lw_nil ?_ | refine qw_then ?_ | refine cw_block ?_))
    refine cw_loop (α := Nat × Value) (fun s => [(1, .string num), (24, .agg ⟨papCells [q0, q1, q2] [v0, v1, v2]⟩), (25, .int .i64 (s.1 : Nat)), (7, s.2)])
      (fun s w' => Ex w w' ∧ s.1 ≤ 3 ∧ w'.ownsRow w.heap.size 54 4 s.2 s.1 ((x.ps.zipIdx.take s.1).map fun x => origRow num x.1 x.2).flatten) (fun s => 3 - s.1) (0, .slice none 0 0) (by repeat (first | exact trivial | refine ⟨rfl, ?_⟩)) ⟨Ext.refl _ _, by omega, by simp; exact World.ownsRow_nil _ _ _ _⟩ ?_
    rintro ⟨j, vo⟩ w1 ⟨hx1, hj, ho⟩
    dsimp only at hx1 hj ho
    (repeat (first | refine lw_pure hT rfl ?_ | refine lw_nil ?_ | refine cw_seq ?_ | refine cw_region ?_ | refine qw_then ?_))
    refine cw_cond rfl (fun h => ?_) (fun h => ?_)
    · have hlt : j < 3 := by simp at h; omega
      obtain ⟨q, vc, g1, g2, g3⟩ : ∃ q vc, x.ps[j]? = some q ∧ (papCells [q0, q1, q2] [v0, v1, v2]).drop (j * 3) = [.int .i64 q.state, .string q.holder, vc] ++ (papCells [q0, q1, q2] [v0, v1, v2]).drop (j * 3 + 3) ∧ True := by
        rw [hq]
        match j, hlt with
        | 0, _ => exact ⟨q0, v0, rfl, rfl, trivial⟩
        | 1, _ => exact ⟨q1, v1, rfl, rfl, trivial⟩
        | 2, _ => exact ⟨q2, v2, rfl, rfl, trivial⟩
      (repeat (first | refine lw_pure hT rfl ?_ | refine cw_seq ?_ | refine cw_region ?_ | refine qw_then ?_ | refine cw_skip ?_ | refine cw_block ?_))
      refine lw_index_agg hT u_papers rfl rfl rfl j rfl hlt (vs := [.int .i64 q.state, .string q.holder, vc]) (by rw [g2]; rfl) ?_
      skip
      refine lw_alloc z85 ?_
      intro bp w2 hbp hb2 hx2 hs2
      have hl1 := hx1.size
      (repeat (refine lw_pure hT rfl ?_))
      have hown1 := own_one (own_ex ho hx2)
      refine lw_store_agg hT rfl rfl rfl rfl ?_ hb2 (show (3 : Nat) ≤ 3 by decide) ?_
      · intro u hu
        simp at hu
        rcases hu with rfl | rfl | rfl <;> first | rfl | skip
        rcases entCells_paper hE.three hE.three' hlt with ⟨q', vc', k1, k2, k3, k4, k5⟩
        have hch := hE.chains j q' vc' k1 k2
        have : vc' = u := by
          rw [hv] at k2
          revert g2 k2
          match j, hlt with
          | 0, _ => intro g2 k2; simp [papCells] at g2 k2; rw [← k2, g2.2.2]
          | 1, _ => intro g2 k2; simp [papCells] at g2 k2; rw [← k2, g2.2.2]
          | 2, _ => intro g2 k2; simp [papCells] at g2 k2; rw [← k2, g2.2.2]
        subst this
        exact own_one hch
      intro w3 hb3 hx3 hs3
      (repeat (first | refine lw_pure hT rfl ?_ | refine lw_nil ?_ | refine cw_region ?_ | refine qw_then ?_))
      refine lw_load hT rfl rfl (v := .int .i64 q.state) (hb3.cell 0) ?_
      (repeat (refine lw_pure hT rfl ?_))
      refine lw_load hT rfl rfl (v := .string q.holder) (hb3.cell 1) ?_
      skip
      refine lw_build bt54 rfl ?_
      skip
      refine lw_buildSlice sl49 rfl rfl rfl ?_
      intro bo w4 hbo hb4 hx4 hs4
      replace hb4 : Blk w4 bo (origRow num q j) 54 := hb4
      skip
      have ho1 := own_ex ho hx2
      have ho2 := own_ext ho1 hx3 (fun k hk e => by have := own_base ho hk; omega)
      have ho4 := own_ex ho2 hx4
      refine lw_append sl49 (by decide) rfl ho4 rfl (hb4.rd 0 4) rfl (by intro u hu; simp [origRow] at hu; rcases hu with rfl | rfl | rfl | rfl <;> rfl) (by unfold maxLen; omega) (by omega) (by omega) ?_
      intro v' w5 k1 k2 k3 k4
      (repeat (first | (refine lw_add rfl rfl ?_ ?_ ?_; iterate 2 omega) | refine lw_pure hT rfl ?_ | refine lw_nil ?_ | refine cw_region ?_ | refine qw_then ?_ | refine qw_block ?_))
      refine qw_round (α := Nat × Value) (j + 1, v') (by repeat (first | exact trivial | refine ⟨rfl, ?_⟩)) ⟨?_, by omega, ?_⟩ (by simp; omega)
      · refine (((hx1.trans hx2).up_new hx3 (fun i hi => by omega)).trans hx4).trans' k2 (fun _ _ f => f.elim) (fun i hi g => ?_)
        have := (own_base ho4 g.symm).1
        omega
      · rw [orig_take g1]; exact k1
    · have : j = 3 := by simp at h; omega
      subst this
      (repeat (first | refine lw_pure hT rfl ?_ | refine lw_nil ?_ | refine cw_seq ?_ | refine cw_region ?_ | refine qw_then ?_ | refine cw_ret ?_ | refine cw_exit ?_ | refine qw_block_exit ?_ | refine qw_then_exit ?_))
      refine qw_ret rfl ⟨?_, hx1⟩
      have : x.ps.zipIdx.take 3 = x.ps.zipIdx := by rw [hq]; rfl
      rwa [this] at ho
end
end Go.Proofs.YtfbjpfgglgffgaaGreat
