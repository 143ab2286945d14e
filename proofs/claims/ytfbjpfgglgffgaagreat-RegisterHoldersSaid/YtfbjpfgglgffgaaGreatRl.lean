/- Contracts of package register, twelfth part: acts that end a bill. -/
import Derived.Test.YtfbjpfgglgffgaaGreatRk
set_option linter.unusedVariables false
set_option linter.unusedSimpArgs false
set_option linter.unusedSectionVars false
set_option linter.unnecessarySimpa false
namespace Go.Proofs.YtfbjpfgglgffgaaGreat
open Go Go.SK

/-- An entry whose bill has ended, as many of its originals as were come to. -/
def ended (x : EntD) (s t : Int) (i : Nat) : EntD := { x with state := s, ps := (x.ps.take i).map (stateP t) ++ x.ps.drop i }
theorem set_9 (x : EntD) (g : GhostE) (s t : Int) : (entCells x g).set 9 (.int .i64 s) = entCells (ended x s t 0) g := by
  simp [ended, entCells, encB]
theorem set_ended {x : EntD} {g : GhostE} (h1 : x.ps.length = 3) (h2 : g.vcs.length = 3) {k : Nat} (hk : k < 3) (s t : Int) : (entCells (ended x s t k) g).set (10 + k * 3) (.int .i64 t) = entCells (ended x s t (k + 1)) g := by
  obtain ⟨a, b, c, ha⟩ := three_cases h1
  obtain ⟨u, v, y, hu⟩ := three_cases h2
  unfold entCells ended
  rw [ha, hu]
  match k, hk with
  | 0, _ => rfl
  | 1, _ => rfl
  | 2, _ => rfl
theorem ended_3 {x : EntD} (h1 : x.ps.length = 3) (s t : Int) : ended x s t 3 = { x with state := s, ps := x.ps.map (stateP t) } := by
  obtain ⟨a, b, c, ha⟩ := three_cases h1
  unfold ended; rw [ha]; rfl
theorem ended_len {x : EntD} (h1 : x.ps.length = 3) (s t : Int) (i : Nat) : (ended x s t i).ps.length = 3 := by
  simp [ended]; omega
theorem reg_end {w : World} {x : EntD} {g : GhostE} (h1 : x.ps.length = 3) (h2 : g.vcs.length = 3) (hb : Blk w g.e (entCells x g) 88) (s t : Int) : Ret Tryz.prog 59 [.pointer (some ⟨g.e, 0, none⟩), .int .i64 s, .int .i64 t] w fun _ w' =>
    Blk w' g.e (entCells { x with state := s, ps := x.ps.map (stateP t) } g) 88 ∧ Ext (· = g.e) w w' := by
  refine ret_of Tryz.func59 Tryz.ntmps59 rfl rfl rfl ?_
  (repeat (first | refine lw_pure hT rfl ?_ | refine cw_seq ?_ | refine cw_region ?_))
  refine lw_store (size := 1) hT rfl rfl rfl rfl hb (show 0 + 9 < (entCells x g).length by rw [entCells_len h1 h2]; omega) ?_
  intro w1 hb1 hx1 hs1
  replace hb1 : Blk w1 g.e ((entCells x g).set 9 (.int .i64 s)) 88 := hb1
  rw [set_9 x g s t] at hb1
  (repeat (first | refine lw_pure hT rfl ?_ | refine lw_nil ?_ | refine cw_seq ?_ | refine cw_region ?_ | refine qw_then ?_ | refine cw_block ?_))
  refine cw_loop (fun i : Nat => [(0, .pointer (some ⟨g.e, 0, none⟩)), (2, .int .i64 t), (11, .int .i64 (i : Nat))]) (fun i w' => Ext (· = g.e) w w' ∧ i ≤ 3 ∧ Blk w' g.e (entCells (ended x s t i) g) 88) (fun i => 3 - i) 0 (by repeat (first | exact trivial | refine ⟨rfl, ?_⟩)) ⟨hx1, by omega, hb1⟩ ?_
  rintro i w2 ⟨hx2, hi, hb2⟩
  (repeat (first | refine lw_pure hT rfl ?_ | refine lw_nil ?_ | refine cw_seq ?_ | refine cw_region ?_ | refine qw_then ?_))
  refine cw_cond rfl (fun h => ?_) (fun h => ?_)
  · have hlt : i < 3 := by simp at h; omega
    (repeat (first | refine lw_pure hT rfl ?_ | refine lw_nil ?_ | refine cw_seq ?_ | refine cw_region ?_ | refine qw_then ?_ | refine cw_skip ?_ | refine cw_block ?_))
    refine lw_index_arr hT rfl rfl rfl i rfl hlt ?_
    (repeat (refine lw_pure hT rfl ?_))
    refine lw_store (size := 1) hT rfl rfl rfl rfl hb2 (show 10 + i * 3 + 0 < (entCells (ended x s t i) g).length by rw [entCells_len (ended_len h1 s t i) h2]; omega) ?_
    intro w3 hb3 hx3 hs3
    replace hb3 : Blk w3 g.e ((entCells (ended x s t i) g).set (10 + i * 3) (.int .i64 t)) 88 := hb3
    rw [set_ended h1 h2 hlt] at hb3
    (repeat (first | (refine lw_add rfl rfl ?_ ?_ ?_; iterate 2 omega) | refine lw_pure hT rfl ?_ | refine lw_nil ?_ | refine cw_region ?_ | refine qw_then ?_ | refine qw_block ?_))
    exact qw_round (i + 1) (by repeat (first | exact trivial | refine ⟨rfl, ?_⟩)) ⟨hx2.trans hx3, by omega, hb3⟩ (by omega)
  · have : i = 3 := by simp at h; omega
    subst this
    rw [ended_3 h1] at hb2
    (repeat (first | refine cw_exit ?_ | refine qw_block_exit ?_ | refine qw_then_exit ?_))
    exact qw_end rfl ⟨hb2, hx2⟩
section
variable {w : World} {p : Nat} {r : RegD} {m : Nat} {gs : List GhostE}
theorem reg_Retire (hR : Rep w p r m gs) (hN : r.Nd) (a : ActD) (hk : a.kind = 5) : Ret Tryz.prog 32 [.pointer (some ⟨p, 0, none⟩), .string a.bill, .string a.by_, .int .i64 a.day] w fun v w' =>
    v = .int .i64 (actC r a) ∧ Mut w p m gs (doA r a) w' := by
  have ha : a.ask = ⟨a.bill, a.by_, -1, 0, true, a.day, ⟨#[]⟩, false⟩ := by simp [ActD.ask, hk]
  have hc : actC r a = askC r a.ask := by simp [actC, hk]
  refine ret_of Tryz.func32 Tryz.ntmps32 rfl rfl rfl ?_
  (repeat (first | refine lw_pure hT rfl ?_ | refine lw_nil ?_ | refine cw_seq ?_ | refine cw_region ?_ | refine qw_then ?_))
  refine lw_build bt123 rfl ?_
  skip
  refine lw_call hT rfl rfl (reg_find hR ⟨a.bill, a.by_, -1, 0, true, a.day, ⟨#[]⟩, false⟩ (show (0 : Nat) ≤ maxLen by decide)) ?_
  rw [← ha]
  rintro v w1 ⟨hv, hx1⟩
  rcases hv with ⟨h0, rfl⟩ | ⟨i, x, g, vl, h0, h1, hA, rfl, hrow⟩
  · (repeat (first | refine lw_pure hT rfl ?_ | refine lw_nil ?_ | refine cw_seq ?_ | refine cw_region ?_ | refine qw_then ?_))
    refine cw_cond rfl (fun h => ?_) (fun h => ?_)
    · (repeat (first | refine lw_pure hT rfl ?_ | refine lw_nil ?_ | refine cw_seq ?_ | refine cw_region ?_ | refine qw_then ?_ | refine cw_ret ?_ | refine qw_then_ret ?_))
      refine qw_ret rfl ⟨by rw [hc]; rfl, ?_⟩
      have : doA r a = r := by simp [doA, hk, h0]
      rw [this]; exact Mut.of_ex hR hx1
    · simp at h; exact absurd h h0
  · rw [ha] at hA
    have hE := hR.ents i x g hA.l hA.gi
    (repeat (first | refine lw_pure hT rfl ?_ | refine lw_nil ?_ | refine cw_seq ?_ | refine cw_region ?_ | refine qw_then ?_))
    refine cw_cond_f rfl (by decide) ?_
    (repeat (first | refine lw_pure hT rfl ?_ | refine cw_seq ?_ | refine cw_region ?_ | refine qw_then ?_ | refine cw_skip ?_))
    refine lw_call hT rfl rfl (reg_end hE.three hE.three' (hE.blk.ex hx1) 4 2) ?_
    rintro v w2 ⟨hb2, hx2⟩
    (repeat (first | refine lw_pure hT rfl ?_ | refine lw_nil ?_ | refine cw_seq ?_ | refine cw_region ?_ | refine qw_then ?_ | refine cw_ret ?_))
    refine qw_ret rfl ⟨by rw [hc, h0]; rfl, ?_⟩
    have : doA r a = r.upd a.bill (·.after a) := by simp [doA, hk, h0]
    rw [this]
    have ea : x.after a = { x with state := 4, ps := x.ps.map (stateP 2) } := by simp [EntD.after, hk]
    refine Mut.same hR hx1 hA hN (·.after a) hx2 (by simp only [ea]) (by simp only [ea]; simp [hE.three]) ?_ (by simp only [ea]; exact hb2) (Ext.refl _ _)
    intro j q q' k1 k2
    simp only [ea, List.getElem?_map, k1, Option.map_some, Option.some.injEq] at k2
    subst k2; rfl
theorem reg_Surrender (hR : Rep w p r m gs) (hN : r.Nd) (hsm : r.Small) (a : ActD) (hk : a.kind = 2) : Ret Tryz.prog 29 [.pointer (some ⟨p, 0, none⟩), .string a.bill, .int .i64 a.index, .string a.by_, .int .i64 a.day] w fun v w' =>
    (∃ u, v = .tuple #[u, .int .i64 (actC r a)] ∧ (actC r a ≠ 0 → u = .slice none 0 0) ∧ ∀ x, actC r a = 0 → r.at? a.bill = some x → w'.ownsRow w.heap.size 9 1 u x.bill.boxes.length (x.bill.boxes.map Value.string)) ∧ Mut w p m gs (doA r a) w' := by
  have ha : a.ask = ⟨a.bill, a.by_, oneI a.index, 0, true, a.day, ⟨#[]⟩, false⟩ := by simp [ActD.ask, hk]
  have hc : actC r a = askC r a.ask := by simp [actC, hk]
  refine ret_of Tryz.func29 Tryz.ntmps29 rfl rfl rfl ?_
  (repeat (first | refine lw_pure hT rfl ?_ | refine lw_nil ?_ | refine cw_seq ?_ | refine cw_region ?_ | refine qw_then ?_))
  refine lw_call hT rfl rfl (reg_one a.index w) ?_
  rintro _ _ ⟨rfl, rfl⟩
  (repeat (refine lw_pure hT rfl ?_))
  refine lw_build bt123 rfl ?_
  skip
  refine lw_call hT rfl rfl (reg_find hR ⟨a.bill, a.by_, oneI a.index, 0, true, a.day, ⟨#[]⟩, false⟩ (show (0 : Nat) ≤ maxLen by decide)) ?_
  rw [← ha]
  rintro v w1 ⟨hv, hx1⟩
  rcases hv with ⟨h0, rfl⟩ | ⟨i, x, g, vl, h0, h1, hA, rfl, hrow⟩
  · (repeat (first | refine lw_pure hT rfl ?_ | refine lw_nil ?_ | refine cw_seq ?_ | refine cw_region ?_ | refine qw_then ?_))
    refine cw_cond rfl (fun h => ?_) (fun h => ?_)
    · (repeat (first | refine lw_pure hT rfl ?_ | refine lw_nil ?_ | refine cw_seq ?_ | refine cw_region ?_ | refine qw_then ?_ | refine cw_ret ?_ | refine qw_then_ret ?_))
      refine qw_ret rfl ⟨⟨_, by rw [hc]; rfl, fun _ => rfl, fun y hy => by rw [hc] at hy; exact absurd hy h0⟩, ?_⟩
      have : doA r a = r := by simp [doA, hk, h0]
      rw [this]; exact Mut.of_ex hR hx1
    · simp at h; exact absurd h h0
  · obtain ⟨g1, g2, g3, g4, g5⟩ := ask_ok h1
    rw [ha] at g1 hA
    obtain ⟨k, hk3, e1, e2⟩ := ixs_one g1
    rw [ha] at hrow; simp only [e1] at hrow
    obtain ⟨b, cap, rfl, hcell⟩ := row_at hrow
    have hE := hR.ents i x g hA.l hA.gi
    have hf := hR.fpn i g hA.gi
    have he : g.e ∈ g.fp := GhostE.fp_mem.2 (.inl rfl)
    have heg : g.e < w.heap.size := hE.blk.lt
    have hbb : w.heap.size ≤ b := (own_base hrow rfl).1
    have hl1 := hx1.size
    (repeat (first | refine lw_pure hT rfl ?_ | refine lw_nil ?_ | refine cw_seq ?_ | refine cw_region ?_ | refine qw_then ?_))
    refine cw_cond_f rfl (by decide) ?_
    (repeat (first | refine lw_pure hT rfl ?_ | refine cw_seq ?_ | refine cw_region ?_ | refine qw_then ?_ | refine cw_skip ?_))
    refine lw_call hT rfl rfl (reg_end hE.three hE.three' (hE.blk.ex hx1) 1 2) ?_
    rintro v w2 ⟨hb2, hx2⟩
    (repeat (first | refine lw_pure hT rfl ?_ | refine lw_nil ?_ | refine cw_seq ?_ | refine cw_region ?_ | refine qw_then ?_))
    refine lw_index hT rfl rfl rfl 0 rfl (show (0 : Nat) < 1 by decide) ?_
    skip
    refine lw_load hT rfl rfl (v := ptrP g.e k) (hx2.cell hcell (by omega)) ?_
    unfold ptrP
    (repeat (refine lw_pure hT rfl ?_))
    have h3' : ({ x with state := 1, ps := x.ps.map (stateP 2) } : EntD).ps.length = 3 := by simp [hE.three]
    refine lw_store (size := 1) hT rfl rfl rfl rfl hb2 (show 10 + k * 3 + 0 < (entCells _ g).length by rw [entCells_len h3' hE.three']; omega) ?_
    intro w3 hb3 hx3 hs3
    replace hb3 : Blk w3 g.e ((entCells { x with state := 1, ps := x.ps.map (stateP 2) } g).set (10 + k * 3) (.int .i64 1)) 88 := hb3
    rw [set_state h3' hE.three' hk3] at hb3
    have hx13 : Ext (· = g.e) w1 w3 := hx2.trans hx3
    (repeat (first | refine lw_pure hT rfl ?_ | refine lw_nil ?_ | refine cw_seq ?_ | refine cw_region ?_ | refine qw_then ?_))
    have hbx := own_ext (own_ex hE.boxesO hx1) hx13 (fun b hb e => hR.rdn i i g g hA.gi hA.gi _ he (GhostE.rd_mem.2 (.inl (e ▸ hb))))
    refine lw_load hT rfl rfl (v := g.vb) (hb3.cell 5) ?_
    skip
    refine lw_call hT rfl rfl (clone_str w3 (sls_own (A := fun _ => True) hbx fun _ _ => trivial) (hsm x (List.mem_of_getElem? hA.l)).2.1) ?_
    rintro u w4 ⟨hu, hx4⟩
    (repeat (first | refine lw_pure hT rfl ?_ | refine lw_nil ?_ | refine qw_then ?_ | refine cw_ret ?_))
    have hl3 := hx13.size
    refine qw_ret rfl ⟨⟨u, by rw [hc, h0]; rfl, fun h => by rw [hc] at h; exact absurd h0 h, fun y _ hy => ?_⟩, ?_⟩
    · have := hA.at_; rw [hy] at this; cases this
      exact own_mono hu (by omega)
    · have : doA r a = r.upd a.bill (·.after a) := by simp [doA, hk, h0]
      rw [this]
      have ea : x.after a = { x with state := 1, ps := onIx [k] (stateP 1) (x.ps.map (stateP 2)) } := by simp [EntD.after, hk, e2]
      refine Mut.same hR hx1 hA hN (·.after a) hx13 (by simp only [ea]) (by simp only [ea]; simp [onIx_len, hE.three]) ?_ (by simp only [ea]; exact hb3) hx4
      intro j q q' k1 k2
      have k1' : (x.ps.map (stateP 2))[j]? = some (stateP 2 q) := by simp [k1]
      simp only [ea, onIx_get k1', Option.some.injEq] at k2
      subst k2; split <;> rfl
end
end Go.Proofs.YtfbjpfgglgffgaaGreat
