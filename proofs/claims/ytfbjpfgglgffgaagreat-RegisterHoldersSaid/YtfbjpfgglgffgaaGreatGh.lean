/- Structs compared with themselves; contract of supercargoref23.Chains on two slices that hold the same. -/
import Derived.Test.YtfbjpfgglgffgaaGreatGf
import Derived.Laws.StructEq
set_option linter.unusedVariables false
set_option linter.unusedSimpArgs false
set_option linter.unusedSectionVars false
set_option linter.unnecessarySimpa false
namespace Go.SK
open Go
attribute [local semireducible] CW LW QW Ret Kn
section
variable {P : Program} {T : Tab} {n : Nat} {fr : Fr} {w : World} {Q : Exit → Act → World → Prop} {ops : Array Oper} {rest : List Oper} {S : World → Prop}
/-- A field of one cell, a text or a whole number. -/
def PlainAt (P : Program) (xs : List Value) (t o : Nat) : Prop := (P.underlying t = some .string ∧ ∃ s, xs[o]? = some (.string s)) ∨ (P.underlying t = some (.int .i64) ∧ ∃ i, xs[o]? = some (.int .i64 i))
theorem eqFields_same {d : Nat} {xs : List Value} : ∀ (fs : List Field) (ks : List (Bool × Nat × Nat)), fs.map (fun f => (f.name == "_", f.type, f.offset)) = ks → (∀ k ∈ ks, k.1 = false ∧ PlainAt P xs k.2.1 k.2.2) → ∀ w, (Op.eqFields (d + 1) ⟨xs⟩ ⟨xs⟩ fs).run P w = .ok true w
  | [], _, _, _, w => by simp [Op.eqFields]
  | f :: fs, ks, h, hp, w => by
    subst h
    have ih := eqFields_same (d := d) (xs := xs) fs _ rfl (fun k hk => hp k (List.mem_cons_of_mem _ hk)) w
    obtain ⟨h1, h2⟩ := hp _ List.mem_cons_self
    dsimp only at h1 h2
    have hn : f.name ≠ "_" := by simpa using h1
    rw [Op.eqFields, if_pos hn]
    rcases h2 with ⟨hu, s, hx⟩ | ⟨hu, i, hx⟩
    · have hag : (isAgg f.type).run P w = .ok false w := by unfold isAgg; simp [run_underlying hu]
      have hpt : (part f.type ⟨xs⟩ f.offset).run P w = .ok (.string s) w := by simp [part, hag, hx]
      have he := run_equalIn_string (P := P) w d f.type s s hu
      simp only [Sem.run_bind, hpt, Result.andThen_ok, he]
      simpa using ih
    · have hag : (isAgg f.type).run P w = .ok false w := by unfold isAgg; simp [run_underlying hu]
      have hpt : (part f.type ⟨xs⟩ f.offset).run P w = .ok (.int .i64 i) w := by simp [part, hag, hx]
      have he := run_equalIn_int (P := P) w d f.type .i64 .i64 i i hu
      simp only [Sem.run_bind, hpt, Result.andThen_ok, he]
      simpa using ih
/-- A struct's value is equal to itself. -/
def SelfEq (P : Program) (t : Nat) (xs : List Value) : Prop := (∀ w, (Op.equal t (.agg ⟨xs⟩) (.agg ⟨xs⟩)).run P w = .ok true w) ∧ P.eqGuardType P.depth t = false
theorem equalIn_same (d : Nat) {t : Nat} {xs : List Value} {ks : List (Bool × Nat × Nat)} (ht : P.underlying t = some (.struct (P.fieldsOf t))) (hp : P.stoodInHeld t = false) (hk : (P.fieldsOf t).toList.map (fun f => (f.name == "_", f.type, f.offset)) = ks)
    (hs : ∀ k ∈ ks, k.1 = false ∧ PlainAt P xs k.2.1 k.2.2) : (Op.equalIn (d + 1 + 1) t (.agg ⟨xs⟩) (.agg ⟨xs⟩)).run P w = .ok true w := by
  rw [run_equalIn_struct w (d + 1) t _ _ ht hp]
  exact eqFields_same _ ks hk hs w
theorem selfEq {t : Nat} {xs : List Value} {ks : List (Bool × Nat × Nat)} (ht : P.underlying t = some (.struct (P.fieldsOf t))) (hp : P.stoodInHeld t = false) (hg : P.eqGuardType P.depth t = false) (hk : (P.fieldsOf t).toList.map (fun f => (f.name == "_", f.type, f.offset)) = ks)
    (hs : ∀ k ∈ ks, k.1 = false ∧ PlainAt P xs k.2.1 k.2.2) : SelfEq P t xs := ⟨fun _ => equalIn_same 9998 ht hp hk hs, hg⟩
theorem run_neq_same {t : Nat} {xs : List Value} (h : SelfEq P t xs) (x y : Operand) (w : World) : (do eqGuard .neq t x y (.agg ⟨xs⟩) (.agg ⟨xs⟩); binOp .neq t (.agg ⟨xs⟩) (.agg ⟨xs⟩) : Sem Value).run P w = .ok (.bool false) w := by
  have hb : (binOp .neq t (.agg ⟨xs⟩) (.agg ⟨xs⟩)).run P w = .ok (.bool false) w := by
    have := h.1 w
    simp only [binOp]
    simp [this]
  simp only [Sem.run_bind, run_eqGuard_agg w .neq t x y _ _ h.2, Result.andThen_ok, hb]
theorem lw_neq_same {d t : Nat} {x y : Operand} {t' : TypeId} {ty : TypeId} {ps : String} {af : Array Edge} {xs : List Value} (hx : ev n fr x = some (.agg ⟨xs⟩)) (hy : ev n fr y = some (.agg ⟨xs⟩)) (h : SelfEq P t xs)
    (k : LW P ops Q rest n ((d, .bool false) :: fr) w) :
    LW P ops Q ({ dst := some d, op := .binOp .neq t x y t', type := ty, pos := ps, after := af, guard := none } :: rest) n fr w := by
  refine lw_run rfl rfl (fun a' hk => ?_) k
  have := run_neq_same h x y w
  simp only [execOp, ev_sound hk hx, ev_sound hk hy]
  rw [Sem.run_bind, this]; rfl
theorem yo_neq_same {d t : Nat} {x y : Operand} {t' : TypeId} {ty : TypeId} {ps : String} {af : Array Edge} {xs : List Value} (hx : ev n fr x = some (.agg ⟨xs⟩)) (hy : ev n fr y = some (.agg ⟨xs⟩)) (h : SelfEq P t xs) :
    YO P ops S n fr { dst := some d, op := .binOp .neq t x y t', type := ty, pos := ps, after := af, guard := none } (.bool false) :=
  yo_run rfl fun a' hk w _ => by
    have := run_neq_same h x y w
    simp only [execOp, ev_sound hk hx, ev_sound hk hy]
    rw [Sem.run_bind, this]; rfl
end
end Go.SK
namespace Go.Proofs.YtfbjpfgglgffgaaGreat
open Go Go.SK
theorem end_self (x : EndD) : SelfEq Tryz.prog 104 (encE x) :=
  selfEq (ks := [(false, 9, 0), (false, 9, 1), (false, 3, 2), (false, 3, 3)]) (by kernel_rfl) (by kernel_rfl) (by kernel_rfl) (by kernel_rfl) (by
    have us : Tryz.prog.underlying 9 = some .string := by kernel_rfl
    have ui : Tryz.prog.underlying 3 = some (.int .i64) := by kernel_rfl
    intro k hk
    simp at hk
    rcases hk with rfl | rfl | rfl | rfl
    · exact ⟨rfl, .inl ⟨us, _, rfl⟩⟩
    · exact ⟨rfl, .inl ⟨us, _, rfl⟩⟩
    · exact ⟨rfl, .inr ⟨ui, _, rfl⟩⟩
    · exact ⟨rfl, .inr ⟨ui, _, rfl⟩⟩)
theorem r23_Chains {A B : Nat → Prop} {va vb : Value} {l : List EndD} (w : World) (hA : SlE A w va l) (hB : SlE B w vb l) : Ret Tryz.prog 53 [va, vb] w fun u w' => u = .bool true ∧ Ex w w' := by
  have hma := hA.small
  obtain ⟨a, ca, rfl, _, hra⟩ := hA.is
  obtain ⟨b, cb, rfl, _, hrb⟩ := hB.is
  simp only [List.length_map] at *
  unfold maxLen at hma
  refine ret_of Tryz.func53 Tryz.ntmps53 rfl rfl rfl ?_
  (repeat (first | refine lw_pure hT rfl ?_ | refine lw_nil ?_ | refine cw_seq ?_ | refine cw_region ?_ | refine qw_then ?_))
  refine cw_cond rfl (fun h => ?_) (fun h => ?_)
  · exfalso; simp at h
  (repeat (first | refine lw_pure hT rfl ?_ | refine lw_nil ?_ | refine cw_seq ?_ | refine cw_region ?_ | refine qw_then ?_ | refine cw_skip ?_ | refine cw_block ?_))
  refine cw_loop (fun i : Nat => [(0, .slice a l.length ca), (1, .slice b l.length cb), (5, .int .i64 (i : Nat))]) (fun i w' => Ex w w' ∧ i ≤ l.length) (fun i => l.length - i) 0 (by repeat (first | exact trivial | refine ⟨rfl, ?_⟩)) ⟨Ext.refl _ _, Nat.zero_le _⟩ ?_
  rintro i w1 ⟨hx1, hi⟩
  (repeat (first | refine lw_pure hT rfl ?_ | refine lw_nil ?_ | refine cw_seq ?_ | refine cw_region ?_ | refine qw_then ?_))
  refine cw_cond rfl (fun h => ?_) (fun h => ?_)
  · have hlt : i < l.length := by simp at h; omega
    have hne : l.map encE ≠ [] := by intro e; simp at e; subst e; simp at hlt
    obtain ⟨ba, oa, rfl, _, hrda⟩ := hra hne
    obtain ⟨bb, ob, rfl, _, hrdb⟩ := hrb hne
    have ra := (hrda i (encE l[i]) (by simp [hlt])).2.ex hx1
    have rb := (hrdb i (encE l[i]) (by simp [hlt])).2.ex hx1
    (repeat (first | refine cw_seq ?_ | refine qw_then ?_ | refine cw_skip ?_ | refine cw_block ?_))
    refine cw_draw hM (fun w' => Ex w1 w') [] rfl rfl (by repeat (first | with_reducible refine nop_then ?_ | with_reducible refine nop_block ?_ | with_reducible exact nop_body)) (fun w2 hx2 _ => ⟨hx2, ?_⟩)
    (refine rw_takeP 0 rfl rfl (by kernel_rfl) (by kernel_rfl) (by kernel_rfl) (by kernel_rfl) rfl (yo_pure hT rfl) ?_; refine rw_takeP 1 rfl rfl (by kernel_rfl) (by kernel_rfl) (by kernel_rfl) (by kernel_rfl) rfl (yo_pure hT rfl) ?_)
    refine rw_takeP 2 rfl rfl (by kernel_rfl) (by kernel_rfl) (by kernel_rfl) (by kernel_rfl) rfl (yo_index hT rfl rfl rfl i rfl hlt) ?_
    refine rw_take 3 rfl rfl (by kernel_rfl) (by kernel_rfl) (by kernel_rfl) (by kernel_rfl) rfl (yo_load_agg hT rfl rfl rfl (vs := encE l[i]) (fun w' hS => ra.ex hS)) ?_
    (refine rw_takeP 4 rfl rfl (by kernel_rfl) (by kernel_rfl) (by kernel_rfl) (by kernel_rfl) rfl (yo_pure hT rfl) ?_; refine rw_takeP 5 rfl rfl (by kernel_rfl) (by kernel_rfl) (by kernel_rfl) (by kernel_rfl) rfl (yo_pure hT rfl) ?_)
    refine rw_takeP 6 rfl rfl (by kernel_rfl) (by kernel_rfl) (by kernel_rfl) (by kernel_rfl) rfl (yo_index hT rfl rfl rfl i rfl hlt) ?_
    refine rw_take 7 rfl rfl (by kernel_rfl) (by kernel_rfl) (by kernel_rfl) (by kernel_rfl) rfl (yo_load_agg hT rfl rfl rfl (vs := encE l[i]) (fun w' hS => rb.ex hS)) ?_
    refine rw_takeP 8 rfl rfl (by kernel_rfl) (by kernel_rfl) (by kernel_rfl) (by kernel_rfl) rfl (yo_neq_same rfl rfl (end_self l[i])) ?_
    refine rw_done (by kernel_rfl) ?_
    (repeat (first | (refine lw_add rfl rfl ?_ ?_ ?_; iterate 2 omega) | refine lw_pure hT rfl ?_ | refine lw_nil ?_ | refine cw_region ?_ | refine qw_then ?_ | refine cw_skip ?_ | refine qw_block ?_ | (refine cw_cond_f rfl ?_ ?_; focus (first | with_reducible rfl | with_reducible exact Bool.not_false | with_reducible exact Bool.not_true))))
    refine qw_round (i + 1) (by repeat (first | exact trivial | refine ⟨rfl, ?_⟩)) ⟨hx1.trans hx2, hlt⟩ (by omega)
  · have : i = l.length := by simp at h; omega
    subst this
    (repeat (first | refine lw_pure hT rfl ?_ | refine lw_nil ?_ | refine cw_seq ?_ | refine cw_region ?_ | refine qw_then ?_ | refine cw_ret ?_ | refine cw_exit ?_ | refine qw_block_exit ?_ | refine qw_then_exit ?_))
    exact qw_ret rfl ⟨rfl, hx1⟩
end Go.Proofs.YtfbjpfgglgffgaaGreat
