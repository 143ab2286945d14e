/- Contracts of package register, tenth part: find. -/
import Derived.Test.YtfbjpfgglgffgaaGreatRi
set_option linter.unusedVariables false
set_option linter.unusedSimpArgs false
set_option linter.unusedSectionVars false
set_option linter.unnecessarySimpa false
namespace Go.Proofs.YtfbjpfgglgffgaaGreat
open Go Go.SK

/-- The questions of an act on an entry, and what each tells. -/
def asks (x : EntD) (a : AskD) : Nat → Bool
  | 0 => decide ((ixs a.index).length = 0)
  | 1 => (a.dated && !dayB a.day) || (a.given && (!nameB a.to_ || decide (a.to_ = a.by_)))
  | 2 => decide (x.state ≠ 0) || (ixs a.index).any fun k => decide ((papAt x k).state ≠ a.state)
  | 3 => (ixs a.index).any fun k => decide ((papAt x k).holder ≠ a.by_)
  | _ => a.dated && (ixs a.index).any fun k => decide (a.day < untilD x.bill (papAt x k))
def codes : Nat → Int
  | 0 => 3
  | 1 => 1
  | 2 => 9
  | 3 => 8
  | _ => 6
theorem askE_eq (x : EntD) (a : AskD) : askE x a = if asks x a 0 then 3 else if asks x a 1 then 1 else if asks x a 2 then 9 else if asks x a 3 then 8 else if asks x a 4 then 6 else 0 := by
  simp only [askE, asks, List.length_map, List.any_map]
  simp only [Function.comp_def, papAt]
  simp [papAt]
theorem askE_at {x : EntD} {a : AskD} {i : Nat} (hi : i < 5) (h : asks x a i = true) (hb : ∀ j, j < i → asks x a j = false) : askE x a = codes i := by
  rw [askE_eq]
  match i, hi with
  | 0, _ => simp [h, codes]
  | 1, _ => simp [h, hb 0 (by omega), codes]
  | 2, _ => simp [h, hb 0 (by omega), hb 1 (by omega), codes]
  | 3, _ => simp [h, hb 0 (by omega), hb 1 (by omega), hb 2 (by omega), codes]
  | 4, _ => simp [h, hb 0 (by omega), hb 1 (by omega), hb 2 (by omega), hb 3 (by omega), codes]
theorem askE_ok {x : EntD} {a : AskD} (hb : ∀ j, j < 5 → asks x a j = false) : askE x a = 0 := by
  rw [askE_eq]; simp [hb 0 (by omega), hb 1 (by omega), hb 2 (by omega), hb 3 (by omega), hb 4 (by omega)]
theorem codes_ne (i : Nat) : codes i ≠ 0 := by
  match i with
  | 0 | 1 | 2 | 3 => simp [codes]
  | _ + 4 => simp [codes]
def fnOf : Nat → Nat
  | 0 => 85
  | 1 => 86
  | 2 => 87
  | 3 => 89
  | _ => 91
def pB (b : Nat) : Value := .pointer (some ⟨b, 0, none⟩)
def capsOf (b3 b7 b9 b10 : Nat) : Nat → List Value
  | 0 => [pB b9]
  | 1 => [pB b3]
  | 2 => [pB b7, pB b10, pB b3]
  | 3 => [pB b10, pB b3]
  | _ => [pB b3, pB b10, pB b7]
def askRow (b3 b7 b9 b10 i : Nat) : List Value := [.func (.func (fnOf i)) ⟨[]⟩ ⟨capsOf b3 b7 b9 b10 i⟩, .int .i64 (codes i)]
section
variable {w : World} {a : AskD} {x : EntD} {g : GhostE} {vl : Value} {b3 b7 b9 b10 : Nat}
theorem find_ask (hC : Ctx w a x g vl b3 b7 b9 b10) (hs : a.to_.size ≤ maxLen) {i : Nat} (hi : i < 5) : Ret Tryz.prog (fnOf i) ([] ++ [] ++ capsOf b3 b7 b9 b10 i) w fun v w' => v = .bool (asks x a i) ∧ Ex w w' := by
  match i, hi with
  | 0, _ => exact find_2 hC
  | 1, _ => exact find_3 hC hs
  | 2, _ => exact find_4 hC
  | 3, _ => exact find_5 hC
  | 4, _ => exact find_6 hC
theorem fnOf_fns {i : Nat} (hi : i < 5) : memN T.fns (fnOf i) = true := by
  match i, hi with
  | 0, _ => rfl
  | 1, _ => rfl
  | 2, _ => rfl
  | 3, _ => rfl
  | 4, _ => rfl
end
section
variable {w : World} {p : Nat} {r : RegD} {m : Nat} {gs : List GhostE}
def FindR (r : RegD) (gs : List GhostE) (a : AskD) (w w' : World) (v : Value) : Prop :=
  (askC r a ≠ 0 ∧ v = .tuple #[.pointer none, .slice none 0 0, .int .i64 (askC r a)]) ∨
  ∃ i x g vl, askC r a = 0 ∧ askE x a = 0 ∧ At r gs a.bill i x g ∧ v = .tuple #[.pointer (some ⟨g.e, 0, none⟩), vl, .int .i64 0] ∧ w'.ownsRow w.heap.size 99 1 vl (ixs a.index).length ((ixs a.index).map (ptrP g.e))
theorem reg_find (hR : Rep w p r m gs) (a : AskD) (hs : a.to_.size ≤ maxLen) : Ret Tryz.prog 56 [.pointer (some ⟨p, 0, none⟩), .agg ⟨encA a⟩] w fun v w' => FindR r gs a w w' v ∧ Ex w w' := by
  refine ret_of Tryz.func56 Tryz.ntmps56 rfl rfl rfl ?_
  (repeat (first | refine cw_seq ?_ | refine cw_region ?_))
  refine lw_box rfl ?_
  intro b3 w1 hbb hb3 hx1 hs1
  replace hb3 : Blk w1 b3 (encA a) 123 := hb3
  have hR1 := hR.ex hx1
  obtain ⟨es, hmp, hpm⟩ := hR1.map
  (repeat (first | refine lw_pure hT rfl ?_ | refine lw_nil ?_ | refine cw_seq ?_ | refine qw_then ?_))
  refine cw_draw hM (fun w' => Ex w1 w') [] rfl rfl (by repeat (first | with_reducible refine nop_then ?_ | with_reducible refine nop_block ?_ | with_reducible exact nop_body)) (fun w2 hx2 _ => ⟨hx2, ?_⟩)
  (refine rw_takeP 0 rfl rfl (by kernel_rfl) (by kernel_rfl) (by kernel_rfl) (by kernel_rfl) rfl (yo_pure hT rfl) ?_; refine rw_takeP 1 rfl rfl (by kernel_rfl) (by kernel_rfl) (by kernel_rfl) (by kernel_rfl) rfl (yo_pure hT rfl) ?_; refine rw_takeP 2 rfl rfl (by kernel_rfl) (by kernel_rfl) (by kernel_rfl) (by kernel_rfl) rfl (yo_pure hT rfl) ?_)
  refine rw_take 3 rfl rfl (by kernel_rfl) (by kernel_rfl) (by kernel_rfl) (by kernel_rfl) rfl (yo_load hT rfl rfl (fun w' hS => Ex.cell hS (hR1.blk.cell 1))) ?_
  (refine rw_takeP 4 rfl rfl (by kernel_rfl) (by kernel_rfl) (by kernel_rfl) (by kernel_rfl) rfl (yo_pure hT rfl) ?_)
  refine rw_take 5 rfl rfl (by kernel_rfl) (by kernel_rfl) (by kernel_rfl) (by kernel_rfl) rfl (yo_load hT rfl rfl (fun w' hS => Ex.cell hS (hb3.cell 0))) ?_
  rcases hR1.at a.bill with ⟨h1, h2⟩ | ⟨i, x, g, hA⟩
  · refine rw_take 6 rfl rfl (by kernel_rfl) (by kernel_rfl) (by kernel_rfl) (by kernel_rfl) rfl (yo_lookup_ok_none mp78 rfl rfl (fun w' hS => hmp.ex hS) ((hR1.get hpm _).trans h2)) ?_
    (refine rw_takeP 7 rfl rfl (by kernel_rfl) (by kernel_rfl) (by kernel_rfl) (by kernel_rfl) rfl (yo_pure hT rfl) ?_; refine rw_takeP 8 rfl rfl (by kernel_rfl) (by kernel_rfl) (by kernel_rfl) (by kernel_rfl) rfl (yo_pure hT rfl) ?_; refine rw_takeP 9 rfl rfl (by kernel_rfl) (by kernel_rfl) (by kernel_rfl) (by kernel_rfl) rfl (yo_pure hT rfl) ?_)
    refine rw_one 10 rfl (by kernel_rfl) rfl (fun hcl => ?_)
    refine lw_alloc z79 ?_
    intro b7 w3 hbb7 hb7 hx3 hs3
    (repeat (refine lw_nil ?_))
    refine qw_rw (by repeat (first | with_reducible refine nop_then ?_ | with_reducible refine nop_block ?_ | with_reducible exact nop_body)) hcl (fun _ => hx2.trans hx3) ?_
    refine rw_one 11 rfl (by kernel_rfl) rfl (fun hcl => ?_)
    refine lw_store (size := 1) hT rfl rfl rfl rfl hb7 (show (0 : Nat) < 1 by decide) ?_
    intro w4 hb7' hx4 hs4
    have hl2 := hx2.size
    have hx14 : Ex w1 w4 := (hx2.trans hx3).up_new hx4 (fun i hi => by omega)
    (repeat (refine lw_nil ?_))
    refine qw_rw (by repeat (first | with_reducible refine nop_then ?_ | with_reducible refine nop_block ?_ | with_reducible exact nop_body)) hcl (fun _ => hx14) ?_
    (refine rw_takeP 12 rfl rfl (by kernel_rfl) (by kernel_rfl) (by kernel_rfl) (by kernel_rfl) rfl (yo_pure hT rfl) ?_)
    refine rw_done (by kernel_rfl) ?_
    (repeat (first | refine lw_pure hT rfl ?_ | refine lw_nil ?_ | refine cw_seq ?_ | refine cw_region ?_ | refine qw_then ?_ | refine cw_ret ?_ | refine qw_then_ret ?_ | (refine cw_cond_t rfl ?_ ?_; focus (first | with_reducible rfl | with_reducible exact Bool.not_false | with_reducible exact Bool.not_true))))
    refine qw_ret rfl ⟨.inl ?_, hx1.trans hx14⟩
    have e : askC r a = 4 := by simp only [askC, h1]
    rw [e]; exact ⟨by decide, rfl⟩
  · refine rw_take 6 rfl rfl (by kernel_rfl) (by kernel_rfl) (by kernel_rfl) (by kernel_rfl) rfl (yo_lookup_ok_some mp78 rfl rfl (fun w' hS => hmp.ex hS) ((hR1.get hpm _).trans hA.get)) ?_
    have ea : askC r a = askE x a := by simp only [askC, hA.at_]
    (refine rw_takeP 7 rfl rfl (by kernel_rfl) (by kernel_rfl) (by kernel_rfl) (by kernel_rfl) rfl (yo_pure hT rfl) ?_; refine rw_takeP 8 rfl rfl (by kernel_rfl) (by kernel_rfl) (by kernel_rfl) (by kernel_rfl) rfl (yo_pure hT rfl) ?_; refine rw_takeP 9 rfl rfl (by kernel_rfl) (by kernel_rfl) (by kernel_rfl) (by kernel_rfl) rfl (yo_pure hT rfl) ?_)
    refine rw_one 10 rfl (by kernel_rfl) rfl (fun hcl => ?_)
    refine lw_alloc z79 ?_
    intro b7 w3 hbb7 hb7 hx3 hs3
    (repeat (refine lw_nil ?_))
    refine qw_rw (by repeat (first | with_reducible refine nop_then ?_ | with_reducible refine nop_block ?_ | with_reducible exact nop_body)) hcl (fun _ => hx2.trans hx3) ?_
    refine rw_one 11 rfl (by kernel_rfl) rfl (fun hcl => ?_)
    refine lw_store (size := 1) hT rfl rfl rfl rfl hb7 (show (0 : Nat) < 1 by decide) ?_
    intro w4 hb7' hx4 hs4
    replace hb7' : Blk w4 b7 [.pointer (some ⟨g.e, 0, none⟩)] 79 := hb7'
    have hl2 := hx2.size
    have hx14 : Ex w1 w4 := (hx2.trans hx3).up_new hx4 (fun i hi => by omega)
    have hl14 := hx14.size
    (repeat (refine lw_nil ?_))
    refine qw_rw (by repeat (first | with_reducible refine nop_then ?_ | with_reducible refine nop_block ?_ | with_reducible exact nop_body)) hcl (fun _ => hx14) ?_
    (refine rw_takeP 12 rfl rfl (by kernel_rfl) (by kernel_rfl) (by kernel_rfl) (by kernel_rfl) rfl (yo_pure hT rfl) ?_)
    refine rw_done (by kernel_rfl) ?_
    (repeat (first | refine lw_pure hT rfl ?_ | refine lw_nil ?_ | refine cw_seq ?_ | refine cw_region ?_ | refine qw_then ?_ | refine cw_skip ?_ | (refine cw_cond_f rfl ?_ ?_; focus (first | with_reducible rfl | with_reducible exact Bool.not_false | with_reducible exact Bool.not_true))))
    refine lw_load hT rfl rfl (v := .pointer (some ⟨g.e, 0, none⟩)) (hb7'.cell 0) ?_
    (repeat (refine lw_pure hT rfl ?_))
    refine lw_load hT rfl rfl (v := .int .i64 a.index) (Ex.cell hx14 (hb3.cell 2)) ?_
    skip
    refine lw_call hT rfl rfl (reg_chosen w4 g.e a.index) ?_
    rintro vl w5 ⟨hvl, hx5⟩
    have hl5 := hx5.size
    skip
    refine lw_alloc z119 ?_
    intro b9 w6 hbb9 hb9 hx6 hs6
    skip
    refine lw_store (size := 1) hT rfl rfl rfl (own_one hvl) hb9 (show (0 : Nat) < 1 by decide) ?_
    intro w7 hb9' hx7 hs7
    replace hb9' : Blk w7 b9 [vl] 119 := hb9'
    (repeat (first | refine lw_pure hT rfl ?_ | refine lw_nil ?_ | refine cw_seq ?_ | refine cw_region ?_ | refine qw_then ?_))
    refine lw_alloc z146 ?_
    intro b10 w8 hbb10 hb10 hx8 hs8
    skip
    refine lw_store (size := 1) hT rfl rfl rfl rfl hb10 (show (0 : Nat) < 1 by decide) ?_
    intro w9 hb10' hx9 hs9
    have hx57 : Ext (· = b9) w5 w7 := (Ext.of_ex hx6).trans hx7
    have hx79 : Ext (· = b10) w7 w9 := (Ext.of_ex hx8).trans hx9
    have hl6 := hx6.size
    have hl8 := hx8.size
    have hx19 : Ex w1 w9 := ((hx14.trans hx5).up_new hx57 (fun i hi => by omega)).up_new hx79 (fun i hi => by omega)
    have hb3l := hb3.lt
    have hb7l := hb7'.lt
    have hb9l := hb9'.lt
    have hvl9 := own_ext (own_ext hvl hx57 (fun k hk e => by have := own_base hvl hk; omega)) hx79 (fun k hk e => by have := own_base hvl hk; omega)
    have hC : Ctx w9 a x g vl b3 b7 b9 b10 := by
      refine ⟨hb3.ex hx19, ?_, hb9'.ext hx79 (by omega), hb10', (hR1.ents i x g hA.l hA.gi).ex hx19, ?_⟩
      · exact (((hb7'.ex hx5).ext hx57 (by omega)).ext hx79 (by omega))
      · refine own_sl (by rw [List.length_map]; have e : ((ixs a.index).map fun k => [ptrP g.e k]).flatten = (ixs a.index).map (ptrP g.e) := flat_single _ _
                          rw [e]; exact hvl9) (by simp) (fun _ _ => trivial)
    (repeat (first | refine lw_pure hT rfl ?_ | refine lw_nil ?_ | refine cw_seq ?_ | refine cw_region ?_ | refine qw_then ?_))
    refine lw_build bt147 rfl ?_
    (repeat (refine lw_pure hT rfl ?_))
    refine lw_build bt147 rfl ?_
    (repeat (refine lw_pure hT rfl ?_))
    refine lw_build bt147 rfl ?_
    (repeat (refine lw_pure hT rfl ?_))
    refine lw_build bt147 rfl ?_
    (repeat (refine lw_pure hT rfl ?_))
    refine lw_build bt147 rfl ?_
    skip
    refine lw_buildSlice sl149 rfl rfl rfl ?_
    intro b11 w10 hbb11 hb11 hx10 hs10
    replace hb11 : Blk w10 b11 (askRow b3 b7 b9 b10 0 ++ askRow b3 b7 b9 b10 1 ++ askRow b3 b7 b9 b10 2 ++ askRow b3 b7 b9 b10 3 ++ askRow b3 b7 b9 b10 4) 147 := hb11
    have hrd : ∀ i, i < 5 → Rd w10 b11 (0 + i * 2) (askRow b3 b7 b9 b10 i) := by
      intro i hi
      match i, hi with
      | 0, _ => exact hb11.rd 0 2
      | 1, _ => exact hb11.rd 2 2
      | 2, _ => exact hb11.rd 4 2
      | 3, _ => exact hb11.rd 6 2
      | 4, _ => exact hb11.rd 8 2
    (repeat (first | refine lw_pure hT rfl ?_ | refine lw_nil ?_ | refine cw_seq ?_ | refine cw_region ?_ | refine qw_then ?_ | refine cw_block ?_))
    have hx110 : Ex w1 w10 := hx19.trans hx10
    have hl10 := hx110.size
    refine cw_loop (fun i : Nat => [(7, pB b7), (9, pB b9), (42, .slice (some ⟨b11, 0, none⟩) 5 5), (43, .int .i64 (5 : Nat)), (44, .int .i64 (i : Nat))])
      (fun i w' => Ex w10 w' ∧ i ≤ 5 ∧ ∀ j, j < i → asks x a j = false) (fun i => 5 - i) 0 (by repeat (first | exact trivial | refine ⟨rfl, ?_⟩)) ⟨Ext.refl _ _, by omega, fun j hj => by omega⟩ ?_
    rintro k w11 ⟨hx11, hk, hno⟩
    (repeat (first | refine lw_pure hT rfl ?_ | refine lw_nil ?_ | refine cw_seq ?_ | refine cw_region ?_ | refine qw_then ?_))
    refine cw_cond rfl (fun h => ?_) (fun h => ?_)
    · have hlt : k < 5 := by simp at h; omega
      (repeat (first | refine cw_seq ?_ | refine cw_region ?_ | refine qw_then ?_ | refine cw_skip ?_ | refine cw_block ?_))
      refine lw_index hT rfl rfl rfl k rfl hlt ?_
      skip
      refine lw_load_agg hT rfl rfl rfl (vs := askRow b3 b7 b9 b10 k) ((hrd k hlt).ex hx11) ?_
      skip
      refine lw_alloc z147 ?_
      intro b13 w12 hbb13 hb13 hx12 hs12
      skip
      refine lw_store_agg hT rfl rfl rfl rfl (by intro v hv; simp [askRow] at hv; rcases hv with rfl | rfl <;> rfl) hb13 (show (2 : Nat) ≤ 2 by decide) ?_
      intro w13 hb13' hx13 hs13
      replace hb13' : Blk w13 b13 (askRow b3 b7 b9 b10 k) 147 := hb13'
      (repeat (first | refine lw_pure hT rfl ?_ | refine lw_nil ?_ | refine cw_seq ?_ | refine cw_region ?_ | refine qw_then ?_))
      refine lw_load hT rfl rfl (v := .func (.func (fnOf k)) ⟨[]⟩ ⟨capsOf b3 b7 b9 b10 k⟩) (hb13'.cell 0) ?_
      skip
      have hl11 := hx11.size
      have hx1013 : Ex w10 w13 := (hx11.trans hx12).up_new hx13 (fun i hi => by omega)
      refine lw_call_fn hT rfl (fnOf_fns hlt) rfl (find_ask ((hC.ex hx10).ex hx1013) hs hlt) ?_
      rintro _ w14 ⟨rfl, hx14'⟩
      (repeat (first | refine lw_nil ?_ | refine qw_then ?_))
      refine cw_cond rfl (fun h' => ?_) (fun h' => ?_)
      · (repeat (refine cw_seq ?_))
        refine cw_draw hM (fun w' => Ex w14 w') [] rfl rfl (by repeat (first | with_reducible refine nop_then ?_ | with_reducible refine nop_block ?_ | with_reducible exact nop_body)) (fun w15 hx15 _ => ⟨hx15, ?_⟩)
        (refine rw_takeP 0 rfl rfl (by kernel_rfl) (by kernel_rfl) (by kernel_rfl) (by kernel_rfl) rfl (yo_pure hT rfl) ?_)
        refine rw_take 1 rfl rfl (by kernel_rfl) (by kernel_rfl) (by kernel_rfl) (by kernel_rfl) rfl (yo_load hT rfl rfl (v := .int .i64 (codes k)) (fun w' hS => Ex.cell hS ((hb13'.ex hx14').cell 1))) ?_
        (refine rw_takeP 2 rfl rfl (by kernel_rfl) (by kernel_rfl) (by kernel_rfl) (by kernel_rfl) rfl (yo_pure hT rfl) ?_; refine rw_takeP 3 rfl rfl (by kernel_rfl) (by kernel_rfl) (by kernel_rfl) (by kernel_rfl) rfl (yo_pure hT rfl) ?_; refine rw_takeP 4 rfl rfl (by kernel_rfl) (by kernel_rfl) (by kernel_rfl) (by kernel_rfl) rfl (yo_pure hT rfl) ?_)
        refine rw_done (by kernel_rfl) ?_
        (repeat (first | refine qw_then ?_ | refine cw_ret ?_ | refine qw_then_ret ?_ | refine qw_block_ret ?_))
        refine qw_ret rfl ⟨.inl ?_, ((((hx1.trans hx110).trans hx1013).trans hx14').trans hx15)⟩
        rw [ea, askE_at hlt h' hno]
        exact ⟨codes_ne k, rfl⟩
      · (repeat (first | (refine lw_add rfl rfl ?_ ?_ ?_; iterate 2 omega) | refine lw_pure hT rfl ?_ | refine lw_nil ?_ | refine cw_region ?_ | refine qw_then ?_ | refine cw_skip ?_ | refine qw_block ?_))
        refine qw_round (k + 1) (by repeat (first | exact trivial | refine ⟨rfl, ?_⟩)) ⟨hx1013.trans hx14', by omega, ?_⟩ (by omega)
        intro j hj
        by_cases e : j = k
        · subst e; exact h'
        · exact hno j (by omega)
    · have : k = 5 := by simp at h; omega
      subst this
      have hC' := (hC.ex hx10).ex hx11
      (repeat (first | refine cw_seq ?_ | refine qw_then ?_ | refine cw_exit ?_ | refine qw_block_exit ?_ | refine qw_then_exit ?_))
      refine cw_draw hM (fun w' => Ex w11 w') [] rfl rfl (by repeat (first | with_reducible refine nop_then ?_ | with_reducible refine nop_block ?_ | with_reducible exact nop_body)) (fun w15 hx15 _ => ⟨hx15, ?_⟩)
      refine rw_take 0 rfl rfl (by kernel_rfl) (by kernel_rfl) (by kernel_rfl) (by kernel_rfl) rfl (yo_load hT rfl rfl (fun w' hS => Ex.cell hS (hC'.ent.cell 0))) ?_
      refine rw_take 1 rfl rfl (by kernel_rfl) (by kernel_rfl) (by kernel_rfl) (by kernel_rfl) rfl (yo_load hT rfl rfl (fun w' hS => Ex.cell hS (hC'.lst.cell 0))) ?_
      (refine rw_takeP 2 rfl rfl (by kernel_rfl) (by kernel_rfl) (by kernel_rfl) (by kernel_rfl) rfl (yo_pure hT rfl) ?_; refine rw_takeP 3 rfl rfl (by kernel_rfl) (by kernel_rfl) (by kernel_rfl) (by kernel_rfl) rfl (yo_pure hT rfl) ?_; refine rw_takeP 4 rfl rfl (by kernel_rfl) (by kernel_rfl) (by kernel_rfl) (by kernel_rfl) rfl (yo_pure hT rfl) ?_)
      refine rw_done (by kernel_rfl) ?_
      (repeat (first | refine qw_then ?_ | refine cw_ret ?_))
      have e0 := askE_ok (x := x) (a := a) hno
      refine qw_ret rfl ⟨.inr ⟨i, x, g, vl, by rw [ea, e0], e0, hA, rfl, ?_⟩, (((hx1.trans hx110).trans hx11).trans hx15)⟩
      exact own_mono (own_ex (own_ex (own_ex hvl9 hx10) hx11) hx15) (by have := hx1.size; omega)
end
end Go.Proofs.YtfbjpfgglgffgaaGreat
