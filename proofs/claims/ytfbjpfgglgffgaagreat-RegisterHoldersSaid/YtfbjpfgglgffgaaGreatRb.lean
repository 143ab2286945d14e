/- Contracts of package register, second part: what is asked of a register. -/
import Derived.Test.YtfbjpfgglgffgaaGreatRa
set_option linter.unusedVariables false
set_option linter.unusedSimpArgs false
set_option linter.unusedSectionVars false
set_option linter.unnecessarySimpa false
namespace Go.Proofs.YtfbjpfgglgffgaaGreat
open Go Go.SK

section
variable {P : Program} {n : Nat} {fr : Fr} {w : World} {Q : Exit → Act → World → Prop} {ops : Array Oper} {rest : List Oper}
theorem lw_lookup_ok_none {d t e b : Nat} {z : Value} {es : List (ByteArray × Value)} {ks : ByteArray} {x y : Operand} {ty : TypeId} {ps : String} {af : Array Edge} (hM : MpT P t e z) (hx : ev n fr x = some (.map (some b))) (hy : ev n fr y = some (.string ks)) (hm : Mp w b es)
    (hg : mget es ks = none) (k : LW P ops Q rest n ((d, .tuple #[z, .bool false]) :: fr) w) :
    LW P ops Q ({ dst := some d, op := .lookup t x y true, type := ty, pos := ps, after := af, guard := none } :: rest) n fr w :=
  lw_lookup_ok hM hx hy hm (by rw [hg]; exact k)
theorem lw_lookup_ok_some {d t e b : Nat} {z v : Value} {es : List (ByteArray × Value)} {ks : ByteArray} {x y : Operand} {ty : TypeId} {ps : String} {af : Array Edge} (hM : MpT P t e z) (hx : ev n fr x = some (.map (some b))) (hy : ev n fr y = some (.string ks)) (hm : Mp w b es)
    (hg : mget es ks = some v) (k : LW P ops Q rest n ((d, .tuple #[v, .bool true]) :: fr) w) :
    LW P ops Q ({ dst := some d, op := .lookup t x y true, type := ty, pos := ps, after := af, guard := none } :: rest) n fr w :=
  lw_lookup_ok hM hx hy hm (by rw [hg]; exact k)
end

/-- Where a number stands. -/
structure At (r : RegD) (gs : List GhostE) (n : ByteArray) (i : Nat) (x : EntD) (g : GhostE) : Prop where
  l : r.l[i]? = some x
  gi : gs[i]? = some g
  num : n = x.bill.number
  at_ : r.at? n = some x
  get : mget (mapOf r.l gs) n = some (.pointer (some ⟨g.e, 0, none⟩))
theorem mget_cons (k : ByteArray) (v : Value) (es : List (ByteArray × Value)) (n : ByteArray) : mget ((k, v) :: es) n = if n = k then some v else mget es n := by
  unfold mget
  by_cases h : n = k
  · simp [h]
  · simp [h, List.find?_cons]
theorem mapOf_cons (x : EntD) (g : GhostE) (l : List EntD) (gs : List GhostE) : mapOf (x :: l) (g :: gs) = (x.bill.number, .pointer (some ⟨g.e, 0, none⟩)) :: mapOf l gs := rfl
theorem at_cases' : ∀ (l : List EntD) (gs : List GhostE) (n : ByteArray), l.length = gs.length →
    ((l.find? fun e => decide (n = e.bill.number)) = none ∧ mget (mapOf l gs) n = none) ∨
    ∃ (i : Nat) (x : EntD) (g : GhostE), l[i]? = some x ∧ gs[i]? = some g ∧ n = x.bill.number ∧ (l.find? fun e => decide (n = e.bill.number)) = some x ∧ mget (mapOf l gs) n = some (.pointer (some ⟨g.e, 0, none⟩))
  | [], [], n, _ => .inl ⟨rfl, rfl⟩
  | [], _ :: _, _, h => by simp at h
  | _ :: _, [], _, h => by simp at h
  | x :: l, g :: gs, n, h => by
    rw [mapOf_cons, mget_cons]
    by_cases e : n = x.bill.number
    · exact .inr ⟨0, x, g, rfl, rfl, e, by simp [e], by simp [e]⟩
    · rcases at_cases' l gs n (by simpa using h) with ⟨h1, h2⟩ | ⟨i, y, g', h1, h2, h3, h4, h5⟩
      · exact .inl ⟨by simp [e, h1], by simp [e, h2]⟩
      · exact .inr ⟨i + 1, y, g', h1, h2, h3, by simp [e, h4], by simp [e, h5]⟩
theorem Rep.at {w : World} {p : Nat} {r : RegD} {m : Nat} {gs : List GhostE} (h : Rep w p r m gs) (n : ByteArray) :
    (r.at? n = none ∧ mget (mapOf r.l gs) n = none) ∨ ∃ i x g, At r gs n i x g := by
  rcases at_cases' r.l gs n h.len with h1 | ⟨i, x, g, h1, h2, h3, h4, h5⟩
  · exact .inl h1
  · exact .inr ⟨i, x, g, h1, h2, h3, h4, h5⟩

theorem encE_len {l : List EndD} : ∀ r ∈ l.map encE, r.length = 4 := by
  intro r hr; obtain ⟨x, _, rfl⟩ := List.mem_map.1 hr; rfl
theorem ChainOk.sl {w : World} {vc : Value} {l : List EndD} (h : ChainOk w vc l) {A : Nat → Prop} (hA : ∀ b, vc.ownBlock = some b → A b) : SlE A w vc l :=
  own_sl (by rwa [List.length_map]) encE_len hA

/-! ### An entry's cells. -/
theorem entCells_state (x : EntD) (g : GhostE) : (entCells x g)[9]? = some (.int .i64 x.state) := rfl
theorem three_cases {α : Type} {l : List α} (h : l.length = 3) : ∃ a b c, l = [a, b, c] := by
  match l, h with
  | [a, b, c], _ => exact ⟨a, b, c, rfl⟩
theorem entCells_paper {x : EntD} {g : GhostE} (h1 : x.ps.length = 3) (h2 : g.vcs.length = 3) {k : Nat} (hk : k < 3) : ∃ p vc, x.ps[k]? = some p ∧ g.vcs[k]? = some vc ∧
    (entCells x g)[10 + k * 3]? = some (.int .i64 p.state) ∧ (entCells x g)[10 + k * 3 + 1]? = some (.string p.holder) ∧ (entCells x g)[10 + k * 3 + 2]? = some vc := by
  obtain ⟨a, b, c, ha⟩ := three_cases h1
  obtain ⟨u, v, y, hu⟩ := three_cases h2
  have e : entCells x g = encB x.bill g.vb g.vp ++ .int .i64 x.state :: papCells [a, b, c] [u, v, y] := by rw [← ha, ← hu]; rfl
  rw [e, ha, hu]
  match k, hk with
  | 0, _ => exact ⟨a, u, rfl, rfl, rfl, rfl, rfl⟩
  | 1, _ => exact ⟨b, v, rfl, rfl, rfl, rfl, rfl⟩
  | 2, _ => exact ⟨c, y, rfl, rfl, rfl, rfl, rfl⟩

def RegD.stateOf (r : RegD) (n : ByteArray) : Int := match r.at? n with
  | none => -1
  | some e => e.state
section
variable {w : World} {p : Nat} {r : RegD} {m : Nat} {gs : List GhostE}
theorem reg_State (hR : Rep w p r m gs) (num : ByteArray) : Ret Tryz.prog 14 [.pointer (some ⟨p, 0, none⟩), .string num] w fun v w' => v = .int .i64 (r.stateOf num) ∧ w = w' := by
  refine ret_of Tryz.func14 Tryz.ntmps14 rfl rfl rfl ?_
  obtain ⟨es, hmp, hpm⟩ := hR.map
  (repeat (first | refine lw_pure hT rfl ?_ | refine lw_nil ?_ | refine cw_seq ?_ | refine cw_region ?_ | refine qw_then ?_))
  refine lw_load hT rfl rfl (v := .map (some m)) (hR.blk.cell 1) ?_
  (repeat (refine lw_pure hT rfl ?_))
  rcases hR.at num with ⟨h1, h2⟩ | ⟨i, x, g, hA⟩
  · refine lw_lookup_ok_none mp78 rfl rfl hmp ((hR.get hpm _).trans h2) ?_
    (repeat (first | refine lw_pure hT rfl ?_ | refine lw_nil ?_ | refine cw_seq ?_ | refine cw_region ?_ | refine qw_then ?_ | refine cw_ret ?_ | refine cw_skip ?_ | (refine cw_cond_f rfl ?_ ?_; focus (first | with_reducible rfl | with_reducible exact Bool.not_false | with_reducible exact Bool.not_true))))
    exact qw_ret rfl ⟨by simp [oneOr, RegD.stateOf, h1], rfl⟩
  · refine lw_lookup_ok_some mp78 rfl rfl hmp ((hR.get hpm _).trans hA.get) ?_
    (repeat (first | refine lw_pure hT rfl ?_ | refine lw_nil ?_ | refine cw_seq ?_ | refine cw_region ?_ | refine qw_then ?_ | (refine cw_cond_t rfl ?_ ?_; focus (first | with_reducible rfl | with_reducible exact Bool.not_false | with_reducible exact Bool.not_true))))
    refine lw_load hT rfl rfl (v := .int .i64 x.state) ((hR.ents i x g hA.l hA.gi).blk.cell 9) ?_
    (repeat (first | refine lw_pure hT rfl ?_ | refine lw_nil ?_ | refine qw_then ?_ | refine cw_ret ?_ | refine qw_then_ret ?_))
    exact qw_ret rfl ⟨by simp [oneOr, RegD.stateOf, hA.at_], rfl⟩

/-- What the question for an original answers. -/
def PapR (r : RegD) (gs : List GhostE) (num : ByteArray) (k : Int) (v : Value) : Prop :=
  (v = .tuple #[.pointer none, .pointer none] ∧ (r.at? num = none ∨ ¬ (0 ≤ k ∧ k < 3))) ∨
  ∃ i x g j, At r gs num i x g ∧ k = ((j : Nat) : Int) ∧ j < 3 ∧ v = .tuple #[.pointer (some ⟨g.e, 0, none⟩), .pointer (some ⟨g.e, 10 + j * 3, none⟩)]
theorem reg_paper (hR : Rep w p r m gs) (num : ByteArray) (k : Int) : Ret Tryz.prog 45 [.pointer (some ⟨p, 0, none⟩), .string num, .int .i64 k] w fun v w' => PapR r gs num k v ∧ Ex w w' := by
  refine ret_of Tryz.func45 Tryz.ntmps45 rfl rfl rfl ?_
  obtain ⟨es, hmp, hpm⟩ := hR.map
  (repeat (first | refine lw_pure hT rfl ?_ | refine lw_nil ?_ | refine cw_seq ?_ | refine cw_region ?_ | refine qw_then ?_))
  refine lw_load hT rfl rfl (v := .map (some m)) (hR.blk.cell 1) ?_
  (repeat (refine lw_pure hT rfl ?_))
  rcases hR.at num with ⟨h1, h2⟩ | ⟨i, x, g, hA⟩
  · refine lw_lookup_ok_none mp78 rfl rfl hmp ((hR.get hpm _).trans h2) ?_
    (repeat (first | refine lw_pure hT rfl ?_ | refine lw_nil ?_ | refine cw_seq ?_ | refine cw_region ?_ | refine qw_then ?_ | refine cw_ret ?_ | refine qw_then_ret ?_ | (refine lw_goff_t rfl ?_ ?_; focus (first | with_reducible rfl | with_reducible exact Bool.not_false | with_reducible exact Bool.not_true)) | (refine cw_cond_t rfl ?_ ?_; focus (first | with_reducible rfl | with_reducible exact Bool.not_false | with_reducible exact Bool.not_true))))
    exact qw_ret rfl ⟨.inl ⟨rfl, .inl h1⟩, Ext.refl _ _⟩
  · refine lw_lookup_ok_some mp78 rfl rfl hmp ((hR.get hpm _).trans hA.get) ?_
    (repeat (first | refine lw_pure hT rfl ?_ | refine lw_nil ?_ | refine cw_seq ?_ | refine cw_region ?_ | refine qw_then ?_ | (refine lw_gon_f rfl ?_ ?_; focus (first | with_reducible rfl | with_reducible exact Bool.not_false | with_reducible exact Bool.not_true))))
    refine lw_guard rfl (fun h => ?_) (fun h => ?_)
    · (repeat (first | refine lw_pure hT rfl ?_ | refine lw_nil ?_ | refine cw_seq ?_ | refine cw_region ?_ | refine qw_then ?_ | refine cw_ret ?_ | refine qw_then_ret ?_ | (refine lw_goff_t rfl ?_ ?_; focus (first | with_reducible rfl | with_reducible exact Bool.not_false | with_reducible exact Bool.not_true)) | (refine cw_cond_t rfl ?_ ?_; focus (first | with_reducible rfl | with_reducible exact Bool.not_false | with_reducible exact Bool.not_true))))
      exact qw_ret rfl ⟨.inl ⟨rfl, .inr (by simp at h; omega)⟩, Ext.refl _ _⟩
    · (repeat (first | refine lw_pure hT rfl ?_ | refine lw_nil ?_ | refine qw_then ?_ | (refine lw_gon_f rfl ?_ ?_; focus (first | with_reducible rfl | with_reducible exact Bool.not_false | with_reducible exact Bool.not_true))))
      refine cw_cond rfl (fun h' => ?_) (fun h' => ?_)
      · (repeat (first | refine lw_pure hT rfl ?_ | refine lw_nil ?_ | refine cw_seq ?_ | refine cw_region ?_ | refine qw_then ?_ | refine cw_ret ?_ | refine qw_then_ret ?_))
        exact qw_ret rfl ⟨.inl ⟨rfl, .inr (by simp at h'; omega)⟩, Ext.refl _ _⟩
      · simp at h h'
        obtain ⟨j, rfl⟩ := Int.eq_ofNat_of_zero_le (show 0 ≤ k by omega)
        have hj : j < 3 := by omega
        (repeat (first | refine cw_seq ?_ | refine qw_then ?_ | refine cw_skip ?_))
        refine cw_draw hM (fun w' => Ex w w') [] rfl rfl (by repeat (first | with_reducible refine nop_then ?_ | with_reducible refine nop_block ?_ | with_reducible exact nop_body)) (fun w1 hx1 _ => ⟨hx1, ?_⟩)
        (refine rw_takeP 0 rfl rfl (by kernel_rfl) (by kernel_rfl) (by kernel_rfl) (by kernel_rfl) rfl (yo_pure hT rfl) ?_; refine rw_takeP 1 rfl rfl (by kernel_rfl) (by kernel_rfl) (by kernel_rfl) (by kernel_rfl) rfl (yo_pure hT rfl) ?_; refine rw_takeP 2 rfl rfl (by kernel_rfl) (by kernel_rfl) (by kernel_rfl) (by kernel_rfl) rfl (yo_pure hT rfl) ?_; refine rw_takeP 3 rfl rfl (by kernel_rfl) (by kernel_rfl) (by kernel_rfl) (by kernel_rfl) rfl (yo_pure hT rfl) ?_; refine rw_takeP 4 rfl rfl (by kernel_rfl) (by kernel_rfl) (by kernel_rfl) (by kernel_rfl) rfl (yo_pure hT rfl) ?_)
        refine rw_takeP 5 rfl rfl (by kernel_rfl) (by kernel_rfl) (by kernel_rfl) (by kernel_rfl) rfl (yo_index_arr hT rfl rfl rfl j rfl hj) ?_
        (refine rw_takeP 6 rfl rfl (by kernel_rfl) (by kernel_rfl) (by kernel_rfl) (by kernel_rfl) rfl (yo_pure hT rfl) ?_; refine rw_takeP 7 rfl rfl (by kernel_rfl) (by kernel_rfl) (by kernel_rfl) (by kernel_rfl) rfl (yo_pure hT rfl) ?_)
        refine rw_done (by kernel_rfl) ?_
        (repeat (first | refine qw_then ?_ | refine cw_ret ?_))
        exact qw_ret rfl ⟨.inr ⟨i, x, g, j, hA, rfl, hj, rfl⟩, hx1⟩
end
end Go.Proofs.YtfbjpfgglgffgaaGreat
