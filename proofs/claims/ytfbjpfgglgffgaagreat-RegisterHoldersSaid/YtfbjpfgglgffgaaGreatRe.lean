/- Contracts of package register, fifth part: a bill, whether somebody holds it all, the bill of a box. -/
import Derived.Test.YtfbjpfgglgffgaaGreatRd
set_option linter.unusedVariables false
set_option linter.unusedSimpArgs false
set_option linter.unusedSectionVars false
set_option linter.unnecessarySimpa false
namespace Go.Proofs.YtfbjpfgglgffgaaGreat
open Go Go.SK

def zeroB : BillD := ⟨⟨#[]⟩, ⟨#[]⟩, ⟨#[]⟩, ⟨#[]⟩, ⟨#[]⟩, [], [], 0, false⟩
section
variable {w : World} {p : Nat} {r : RegD} {m : Nat} {gs : List GhostE}
def GetR (r : RegD) (n : ByteArray) (w w' : World) (v : Value) : Prop :=
  match r.at? n with
  | none => v = .tuple #[.agg ⟨encB zeroB (.slice none 0 0) (.slice none 0 0)⟩, .bool false]
  | some x => ∃ ub up, v = .tuple #[.agg ⟨encB x.bill ub up⟩, .bool true] ∧ w'.ownsRow w.heap.size 9 1 ub x.bill.boxes.length (x.bill.boxes.map Value.string) ∧ w'.ownsRow w.heap.size 9 1 up x.bill.parents.length (x.bill.parents.map Value.string)
theorem reg_Get (hR : Rep w p r m gs) (hs : r.Small) (num : ByteArray) : Ret Tryz.prog 13 [.pointer (some ⟨p, 0, none⟩), .string num] w fun v w' => GetR r num w w' v ∧ Ex w w' := by
  refine ret_of Tryz.func13 Tryz.ntmps13 rfl rfl rfl ?_
  obtain ⟨es, hmp, hpm⟩ := hR.map
  (repeat (first | refine cw_seq ?_ | refine cw_region ?_))
  refine lw_alloc z35 ?_
  intro bc w2 hbc hb2 hx2 hs2
  (repeat (first | refine lw_pure hT rfl ?_ | refine lw_nil ?_ | refine cw_seq ?_ | refine cw_region ?_ | refine qw_then ?_))
  refine lw_load hT rfl rfl (v := .map (some m)) (Ex.cell hx2 (hR.blk.cell 1)) ?_
  (repeat (refine lw_pure hT rfl ?_))
  rcases hR.at num with ⟨h1, h2⟩ | ⟨i, x, g, hA⟩
  · refine lw_lookup_ok_none mp78 rfl rfl (hmp.ex hx2) ((hR.get hpm _).trans h2) ?_
    (repeat (first | refine lw_pure hT rfl ?_ | refine lw_nil ?_ | refine cw_seq ?_ | refine cw_region ?_ | refine qw_then ?_ | (refine cw_cond_t rfl ?_ ?_; focus (first | with_reducible rfl | with_reducible exact Bool.not_false | with_reducible exact Bool.not_true))))
    refine lw_build bt35 rfl ?_
    skip
    refine lw_store_agg hT rfl rfl rfl rfl ?_ hb2 (show (9 : Nat) ≤ 9 by decide) ?_
    · intro v hv
      simp at hv
      rcases hv with rfl | rfl | rfl | rfl <;> rfl
    intro w3 hb3 hx3 hs3
    (repeat (first | refine lw_pure hT rfl ?_ | refine lw_nil ?_ | refine qw_then ?_ | refine cw_ret ?_ | refine qw_then_ret ?_))
    refine qw_ret_cell hT rfl rfl rfl rfl (vs := encB zeroB (.slice none 0 0) (.slice none 0 0)) (hb3.rd 0 9) rfl ⟨?_, hx2.up_new hx3 (fun i hi => by omega)⟩
    simp only [GetR, h1]; rfl
  · refine lw_lookup_ok_some mp78 rfl rfl (hmp.ex hx2) ((hR.get hpm _).trans hA.get) ?_
    (repeat (first | refine lw_pure hT rfl ?_ | refine lw_nil ?_ | refine cw_seq ?_ | refine cw_region ?_ | refine qw_then ?_ | refine cw_skip ?_ | (refine cw_cond_f rfl ?_ ?_; focus (first | with_reducible rfl | with_reducible exact Bool.not_false | with_reducible exact Bool.not_true))))
    have hE := hR.ents i x g hA.l hA.gi
    have hsm := hs x (List.mem_of_getElem? hA.l)
    refine lw_load_agg hT rfl rfl rfl (vs := encB x.bill g.vb g.vp) ((hE.blk.ex hx2).rd 0 9) ?_
    skip
    refine lw_call hT rfl rfl (reg_own w2 (hE.boxes.ex hx2) (hE.parents.ex hx2) hsm.2.1 hsm.2.2) ?_
    rintro _ w3 ⟨ub, up, rfl, hu, hp, hx3⟩
    skip
    refine lw_store_agg hT rfl rfl rfl rfl ?_ (hb2.ex hx3) (show (9 : Nat) ≤ 9 by decide) ?_
    · intro v hv
      simp [encB] at hv
      have := own_one hu
      have := own_one hp
      rcases hv with rfl | rfl | rfl | rfl | rfl | rfl | rfl | rfl | rfl <;> first | rfl | assumption
    intro w4 hb4 hx4 hs4
    (repeat (first | refine lw_pure hT rfl ?_ | refine lw_nil ?_ | refine qw_then ?_ | refine cw_ret ?_))
    have hl2 := hx2.size
    refine qw_ret_cell hT rfl rfl rfl rfl (vs := encB x.bill ub up) (hb4.rd 0 9) rfl ⟨?_, (hx2.trans hx3).up_new hx4 (fun i hi => by omega)⟩
    simp only [GetR, hA.at_]
    have hb2l := hb2.lt
    exact ⟨ub, up, rfl, own_mono (own_ext hu hx4 (fun k hk e => by have := own_base hu hk; omega)) hl2, own_mono (own_ext hp hx4 (fun k hk e => by have := own_base hp hk; omega)) hl2⟩

/-- Does somebody hold all of a bill? -/
def EntD.full (e : EntD) (who : ByteArray) : Bool := decide (e.state = 0) && !(e.ps.any fun q => decide (q.state ≠ 0) || decide (q.holder ≠ who))
def RegD.fullOf (r : RegD) (n who : ByteArray) : Bool := match r.at? n with
  | none => false
  | some e => e.full who
def papRow (q : PapD × Value) : List Value := [.int .i64 q.1.state, .string q.1.holder, q.2]
theorem reg_Full1 (q : PapD × Value) (b : Nat) (who : ByteArray) (w : World) (hb : w.cell? ⟨b, 0, none⟩ = some (.string who)) : Ret Tryz.prog 55 ([] ++ [.agg ⟨papRow q⟩] ++ [.pointer (some ⟨b, 0, none⟩)]) w fun v w' =>
    v = .bool (decide (q.1.state ≠ 0) || decide (q.1.holder ≠ who)) ∧ Ex w w' := by
  refine ret_of Tryz.func55 Tryz.ntmps55 rfl rfl rfl ?_
  (repeat (first | refine cw_seq ?_ | refine cw_region ?_))
  refine lw_box rfl ?_
  intro bq w1 hbq hb1 hx1 hs1
  replace hb1 : Blk w1 bq (papRow q) 85 := hb1
  (repeat (first | refine lw_pure hT rfl ?_ | refine lw_nil ?_ | refine cw_seq ?_ | refine cw_region ?_ | refine qw_then ?_))
  refine lw_load hT rfl rfl (v := .int .i64 q.1.state) (hb1.cell 0) ?_
  (repeat (refine lw_pure hT rfl ?_))
  refine lw_guard rfl (fun h => ?_) (fun h => ?_)
  · (repeat (first | refine lw_pure hT rfl ?_ | refine lw_nil ?_ | refine qw_then ?_ | refine cw_ret ?_ | (refine lw_goff_t rfl ?_ ?_; focus (first | with_reducible rfl | with_reducible exact Bool.not_false | with_reducible exact Bool.not_true))))
    exact qw_ret rfl ⟨by rw [h]; rfl, hx1⟩
  · (repeat (first | refine lw_pure hT rfl ?_ | (refine lw_gon_f rfl ?_ ?_; focus (first | with_reducible rfl | with_reducible exact Bool.not_false | with_reducible exact Bool.not_true))))
    refine lw_load hT rfl rfl (v := .string q.1.holder) (hb1.cell 1) ?_
    (repeat (refine lw_gon_f rfl ?_ ?_; focus (first | with_reducible rfl | with_reducible exact Bool.not_false | with_reducible exact Bool.not_true)))
    refine lw_load hT rfl rfl (v := .string who) (Ex.cell hx1 hb) ?_
    (repeat (first | refine lw_pure hT rfl ?_ | refine lw_nil ?_ | refine qw_then ?_ | refine cw_ret ?_ | (refine lw_gon_f rfl ?_ ?_; focus (first | with_reducible rfl | with_reducible exact Bool.not_false | with_reducible exact Bool.not_true))))
    exact qw_ret rfl ⟨by rw [h]; rfl, hx1⟩
theorem papers_sl {x : EntD} {g : GhostE} (h : EntOk w x g) : Sl (fun _ => True) w (.slice (some ⟨g.e, 10, none⟩) 3 3) 3 ((x.ps.zip g.vcs).map papRow) := by
  obtain ⟨a, b, c, ha⟩ := three_cases h.three
  obtain ⟨u, v, y, hu⟩ := three_cases h.three'
  have hb := h.blk
  have e : entCells x g = encB x.bill g.vb g.vp ++ .int .i64 x.state :: papCells [a, b, c] [u, v, y] := by rw [← ha, ← hu]; rfl
  rw [e] at hb
  rw [ha, hu]
  exact Sl.of_rd (A := fun _ => True) (o := 10) (rows := [papRow (a, u), papRow (b, v), papRow (c, y)]) trivial (by simp [papRow]) (hb.rd 10 9) (by simp [maxLen])
theorem zip_any {ps : List PapD} {vcs : List Value} (f : PapD → Bool) (h1 : ps.length = 3) (h2 : vcs.length = 3) : ((ps.zip vcs).any fun q => f q.1) = ps.any f := by
  obtain ⟨a, b, c, rfl⟩ := three_cases h1
  obtain ⟨u, v, y, rfl⟩ := three_cases h2
  rfl
theorem reg_Full (hR : Rep w p r m gs) (num who : ByteArray) : Ret Tryz.prog 27 [.pointer (some ⟨p, 0, none⟩), .string num, .string who] w fun v w' => v = .bool (r.fullOf num who) ∧ Ex w w' := by
  refine ret_of Tryz.func27 Tryz.ntmps27 rfl rfl rfl ?_
  obtain ⟨es, hmp, hpm⟩ := hR.map
  (repeat (first | refine cw_seq ?_ | refine cw_region ?_))
  refine lw_box rfl ?_
  intro bq w1 hbq hb1 hx1 hs1
  replace hb1 : Blk w1 bq [.string who] 9 := hb1
  (repeat (first | refine lw_pure hT rfl ?_ | refine lw_nil ?_ | refine cw_seq ?_ | refine cw_region ?_ | refine qw_then ?_))
  refine lw_load hT rfl rfl (v := .map (some m)) (Ex.cell hx1 (hR.blk.cell 1)) ?_
  (repeat (refine lw_pure hT rfl ?_))
  rcases hR.at num with ⟨h1, h2⟩ | ⟨i, x, g, hA⟩
  · refine lw_lookup_ok_none mp78 rfl rfl (hmp.ex hx1) ((hR.get hpm _).trans h2) ?_
    (repeat (first | refine lw_pure hT rfl ?_ | refine lw_nil ?_ | refine cw_seq ?_ | refine cw_region ?_ | refine qw_then ?_ | refine cw_ret ?_ | (refine lw_goff_f rfl ?_ ?_; focus (first | with_reducible rfl | with_reducible exact Bool.not_false | with_reducible exact Bool.not_true))))
    exact qw_ret rfl ⟨by simp [oneOr, RegD.fullOf, h1], hx1⟩
  · refine lw_lookup_ok_some mp78 rfl rfl (hmp.ex hx1) ((hR.get hpm _).trans hA.get) ?_
    (repeat (first | refine lw_pure hT rfl ?_ | refine lw_nil ?_ | refine cw_seq ?_ | refine cw_region ?_ | refine qw_then ?_ | (refine lw_gon_t rfl ?_ ?_; focus (first | with_reducible rfl | with_reducible exact Bool.not_false | with_reducible exact Bool.not_true))))
    have hE := hR.ents i x g hA.l hA.gi
    refine lw_load hT rfl rfl (v := .int .i64 x.state) (Ex.cell hx1 (hE.blk.cell 9)) ?_
    (repeat (first | refine lw_pure hT rfl ?_ | (refine lw_gon_t rfl ?_ ?_; focus (first | with_reducible rfl | with_reducible exact Bool.not_false | with_reducible exact Bool.not_true))))
    refine lw_guard rfl (fun h => ?_) (fun h => ?_)
    · (repeat (first | refine lw_pure hT rfl ?_ | (refine lw_gon_t rfl ?_ ?_; focus (first | with_reducible rfl | with_reducible exact Bool.not_false | with_reducible exact Bool.not_true))))
      refine lw_slice_arr hT rfl rfl ?_
      (repeat (first | refine lw_pure hT rfl ?_ | (refine lw_gon_t rfl ?_ ?_; focus (first | with_reducible rfl | with_reducible exact Bool.not_false | with_reducible exact Bool.not_true))))
      refine lw_call hT rfl rfl (cnf_pap papRow (fun q => .agg ⟨papRow q⟩) (fun _ => rfl) (fun q => decide (q.1.state ≠ 0) || decide (q.1.holder ≠ who)) (fi := []) (cp := [.pointer (some ⟨bq, 0, none⟩)]) w1 ((papers_sl hE).ex hx1) rfl
        (fun q _ w2 hx2 => reg_Full1 q bq who w2 (Ex.cell hx2 (hb1.cell 0)))) ?_
      rintro _ w3 ⟨rfl, hx3⟩
      (repeat (first | refine lw_pure hT rfl ?_ | refine lw_nil ?_ | refine qw_then ?_ | refine cw_ret ?_ | (refine lw_gon_t rfl ?_ ?_; focus (first | with_reducible rfl | with_reducible exact Bool.not_false | with_reducible exact Bool.not_true))))
      refine qw_ret rfl ⟨?_, hx1.trans hx3⟩
      rw [zip_any (fun q => decide (q.state ≠ 0) || decide (q.holder ≠ who)) hE.three hE.three']
      simp only [oneOr, RegD.fullOf, hA.at_, EntD.full, h, Bool.true_and]
    · (repeat (first | refine lw_pure hT rfl ?_ | refine lw_nil ?_ | refine qw_then ?_ | refine cw_ret ?_ | (refine lw_goff_f rfl ?_ ?_; focus (first | with_reducible rfl | with_reducible exact Bool.not_false | with_reducible exact Bool.not_true))))
      exact qw_ret rfl ⟨by simp only [oneOr, RegD.fullOf, hA.at_, EntD.full, h, Bool.false_and], hx1⟩
end
end Go.Proofs.YtfbjpfgglgffgaaGreat
