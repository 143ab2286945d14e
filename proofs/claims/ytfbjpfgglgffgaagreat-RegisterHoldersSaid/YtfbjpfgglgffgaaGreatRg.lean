/- Contracts of package register, seventh part: the bill of a box. -/
import Derived.Test.YtfbjpfgglgffgaaGreatRf
set_option linter.unusedVariables false
set_option linter.unusedSimpArgs false
set_option linter.unusedSectionVars false
set_option linter.unnecessarySimpa false
namespace Go.Proofs.YtfbjpfgglgffgaaGreat
open Go Go.SK

theorem filter_lt {α : Type} {p q : α → Bool} {j : α} (h : ∀ i, q i = true → p i = true) (hp : p j = true) (hq : q j = false) : ∀ {l : List α}, j ∈ l → (l.filter q).length < (l.filter p).length
  | a :: l, hj => by
    have hle : ∀ l : List α, (l.filter q).length ≤ (l.filter p).length := by
      intro l
      induction l with
      | nil => exact Nat.le_refl _
      | cons b l ih =>
        cases hb : q b with
        | true => simp [hb, h b hb]; exact ih
        | false => cases hc : p b <;> simp [hb, hc] <;> omega
    rcases List.mem_cons.1 hj with rfl | hj
    · simp [hp, hq]; have := hle l; omega
    · have := filter_lt h hp hq hj
      cases hb : q a with
      | true => simp [hb, h a hb]; exact this
      | false => cases hc : p a <;> simp [hb, hc] <;> omega
def left (n : Nat) (seen : List Nat) : Nat := ((List.range n).filter fun i => decide (i ∉ seen)).length
theorem left_lt {n j : Nat} {seen : List Nat} (hj : j < n) (hn : j ∉ seen) : left n (seen ++ [j]) < left n seen := by
  refine filter_lt (j := j) ?_ (by simpa using hn) (by simp) (by simpa using hj)
  intro i; simp; intro h _; exact h
theorem mapOf_get {l : List EntD} {gs : List GhostE} {j : Nat} {e : ByteArray × Value} (h : (mapOf l gs)[j]? = some e) : ∃ x g, l[j]? = some x ∧ gs[j]? = some g ∧ e = (x.bill.number, .pointer (some ⟨g.e, 0, none⟩)) := by
  simp only [mapOf, List.getElem?_map, Option.map_eq_some_iff, List.getElem?_zip_eq_some] at h
  obtain ⟨⟨x, g⟩, ⟨h1, h2⟩, rfl⟩ := h
  exact ⟨x, g, h1, h2, rfl⟩
theorem mapOf_length {l : List EntD} {gs : List GhostE} (h : l.length = gs.length) : (mapOf l gs).length = l.length := by simp [mapOf, h]

def BoxR (r : RegD) (x : ByteArray) (v : Value) : Prop :=
  (v = .tuple #[.string ⟨#[]⟩, .bool false] ∧ r.boxed x = false) ∨ ∃ e ∈ r.l, e.has x = true ∧ v = .tuple #[.string e.bill.number, .bool true]
section
variable {w : World} {p : Nat} {r : RegD} {m : Nat} {gs : List GhostE}
theorem reg_Box (hR : Rep w p r m gs) (x : ByteArray) : Ret Tryz.prog 15 [.pointer (some ⟨p, 0, none⟩), .string x] w fun v w' => BoxR r x v ∧ Ex w w' := by
  obtain ⟨es, hmp, hpm⟩ := hR.map
  refine ret_of Tryz.func15 Tryz.ntmps15 rfl rfl rfl ?_
  (repeat (first | refine lw_pure hT rfl ?_ | refine lw_nil ?_ | refine cw_seq ?_ | refine cw_region ?_ | refine qw_then ?_))
  refine lw_load hT rfl rfl (v := .map (some m)) (hR.blk.cell 1) ?_
  skip
  refine lw_range mp78 rfl hmp ?_
  intro bi w1 hbi hI1 hx1 hs1
  have hml := hmp.lt
  (repeat (first | refine lw_nil ?_ | refine qw_then ?_ | refine cw_block ?_))
  refine cw_loop (fun seen : List Nat => [(1, .string x), (12, .pointer (some ⟨bi, 0, none⟩))])
    (fun seen w' => Ex w w' ∧ Itr w' bi m es.length seen ∧ (∀ j ∈ seen, j < es.length) ∧ ∀ (i j : Nat) e g, j ∈ seen → r.l[i]? = some e → gs[i]? = some g → es[j]? = some (e.bill.number, .pointer (some ⟨g.e, 0, none⟩)) → e.has x = false) (fun seen => left es.length seen) [] (by repeat (first | exact trivial | refine ⟨rfl, ?_⟩))
    ⟨hx1, hI1, by simp, by simp⟩ ?_
  rintro seen w2 ⟨hx2, hI2, hlt, hno⟩
  (repeat (first | refine cw_seq ?_ | refine cw_region ?_))
  refine lw_next rfl (hmp.ex hx2) hI2 hlt (fun hall => ?_) ?_
  · (repeat (first | refine lw_pure hT rfl ?_ | refine lw_nil ?_ | refine cw_seq ?_ | refine cw_region ?_ | refine qw_then ?_ | refine cw_ret ?_ | refine cw_exit ?_ | refine qw_block_exit ?_ | refine qw_then_exit ?_ | (refine cw_cond_f rfl ?_ ?_; focus (first | with_reducible rfl | with_reducible exact Bool.not_false | with_reducible exact Bool.not_true))))
    refine qw_ret rfl ⟨.inl ⟨rfl, ?_⟩, hx2⟩
    simp only [RegD.boxed, List.any_eq_false, Bool.not_eq_true]
    intro e he
    obtain ⟨i, hi⟩ := List.getElem?_of_mem he
    have hil := (List.getElem?_eq_some_iff.1 hi).1
    have hig : gs[i]? = some (gs[i]'(hR.len ▸ hil)) := List.getElem?_eq_getElem _
    have hin : (e.bill.number, Value.pointer (some ⟨(gs[i]'(hR.len ▸ hil)).e, 0, none⟩)) ∈ mapOf r.l gs := by
      refine List.mem_map.2 ⟨(e, gs[i]'(hR.len ▸ hil)), List.mem_of_getElem? (i := i) ?_, rfl⟩
      rw [List.getElem?_zip_eq_some]; exact ⟨hi, hig⟩
    obtain ⟨j, hj⟩ := List.getElem?_of_mem (hpm.mem_iff.2 hin)
    exact hno i j e _ (hall j (List.getElem?_eq_some_iff.1 hj).1) hi hig hj
  · intro j e w3 hj hjs hI3 hx3 hs3 hent
    obtain ⟨i, hi⟩ := List.getElem?_of_mem (hpm.mem_iff.1 (List.mem_of_getElem? hj))
    obtain ⟨y, g, h1, h2, rfl⟩ := mapOf_get hi
    have hjl := (List.getElem?_eq_some_iff.1 hj).1
    have hE := hR.ents i y g h1 h2
    have hx13 : Ex w w3 := hx2.up_new hx3 (fun i hi => by omega)
    have step : y.has x = false → ∀ (i' j' : Nat) e g', j' ∈ seen ++ [j] → r.l[i']? = some e → gs[i']? = some g' → es[j']? = some (e.bill.number, .pointer (some ⟨g'.e, 0, none⟩)) → e.has x = false := by
      intro hy i' j' e g' hk he hg' hee
      simp at hk
      rcases hk with hk | rfl
      · exact hno i' j' e g' hk he hg' hee
      · rw [hj] at hee
        have hnum : y.bill.number = e.bill.number := congrArg Prod.fst (Option.some.inj hee)
        have := hR.nd i i' y e h1 he hnum
        subst this
        rw [h1] at he; cases he; exact hy
    have bnd : ∀ k ∈ seen ++ [j], k < es.length := by
      intro k hk; simp at hk; exact hk.elim (fun hk => hlt k hk) (fun e => by subst e; exact hjl)
    (repeat (first | refine lw_pure hT rfl ?_ | refine lw_nil ?_ | refine cw_seq ?_ | refine cw_region ?_ | refine qw_then ?_ | refine cw_skip ?_ | refine cw_block ?_ | (refine cw_cond_t rfl ?_ ?_; focus (first | with_reducible rfl | with_reducible exact Bool.not_false | with_reducible exact Bool.not_true))))
    refine lw_entry rfl hent ?_
    (repeat (first | refine lw_pure hT rfl ?_ | refine lw_nil ?_ | refine cw_seq ?_ | refine cw_region ?_ | refine qw_then ?_))
    refine lw_load hT rfl rfl (v := .int .i64 y.state) (Ex.cell hx13 (hE.blk.cell 9)) ?_
    (repeat (refine lw_pure hT rfl ?_))
    refine lw_guard rfl (fun h => ?_) (fun h => ?_)
    · (repeat (first | refine lw_pure hT rfl ?_ | (refine lw_gon_t rfl ?_ ?_; focus (first | with_reducible rfl | with_reducible exact Bool.not_false | with_reducible exact Bool.not_true))))
      refine lw_load hT rfl rfl (v := g.vb) (Ex.cell hx13 (hE.blk.cell 5)) ?_
      (repeat (first | refine lw_pure hT rfl ?_ | (refine lw_gon_t rfl ?_ ?_; focus (first | with_reducible rfl | with_reducible exact Bool.not_false | with_reducible exact Bool.not_true))))
      refine lw_call hT rfl rfl (cnt_str x w3 (hE.boxes.ex hx13)) ?_
      rintro _ _ ⟨rfl, rfl⟩
      (repeat (first | refine lw_pure hT rfl ?_ | refine lw_nil ?_ | refine qw_then ?_))
      refine cw_cond rfl (fun h' => ?_) (fun h' => ?_)
      · (repeat (first | refine lw_pure hT rfl ?_ | refine lw_nil ?_ | refine cw_seq ?_ | refine cw_region ?_ | refine qw_then ?_ | refine cw_ret ?_ | refine qw_then_ret ?_ | refine qw_block_ret ?_))
        exact qw_ret rfl ⟨.inr ⟨y, List.mem_of_getElem? h1, by simp only [EntD.has, h, h', Bool.true_and], rfl⟩, hx13⟩
      · (repeat (first | refine cw_skip ?_ | refine qw_block ?_))
        exact qw_round (seen ++ [j]) (by repeat (first | exact trivial | refine ⟨rfl, ?_⟩)) ⟨hx13, hI3, bnd, step (by simp only [EntD.has, h', Bool.and_false])⟩ (left_lt hjl hjs)
    · (repeat (first | refine lw_pure hT rfl ?_ | refine lw_nil ?_ | refine qw_then ?_ | refine cw_skip ?_ | (refine lw_goff_f rfl ?_ ?_; focus (first | with_reducible rfl | with_reducible exact Bool.not_false | with_reducible exact Bool.not_true)) | refine qw_block ?_ | (refine cw_cond_f rfl ?_ ?_; focus (first | with_reducible rfl | with_reducible exact Bool.not_false | with_reducible exact Bool.not_true))))
      exact qw_round (seen ++ [j]) (by repeat (first | exact trivial | refine ⟨rfl, ?_⟩)) ⟨hx13, hI3, bnd, step (by simp only [EntD.has, h, Bool.false_and])⟩ (left_lt hjl hjs)
end
end Go.Proofs.YtfbjpfgglgffgaaGreat
