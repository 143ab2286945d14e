/- Contracts of package supercargoref23, second part: whether a bill may be issued, which originals are meant, the last day, copies. -/
import Derived.Test.YtfbjpfgglgffgaaGreatFa
set_option linter.unusedVariables false
set_option linter.unusedSimpArgs false
set_option linter.unusedSectionVars false
set_option linter.unnecessarySimpa false
namespace Go.Proofs.YtfbjpfgglgffgaaGreat
open Go Go.SK

def mayF (c : ByteArray) (b : BillD) : Bool :=
  (nameB b.number && nameB b.shipper && nameB b.frm && nameB b.to_) && decide (b.carrier = c) && decide (1 ≤ b.boxes.length) && decide (b.boxes.length ≤ 64) && decide (b.parents.length ≤ 64) && b.parents.all nameB && dayB b.issued && (b.boxes.all rightB && onceB b.boxes)
theorem mayF_eq (c : ByteArray) (b : BillD) : mayF c b = mayB c b := by
  unfold mayF mayB
  cases (nameB b.number && nameB b.shipper && nameB b.frm && nameB b.to_) <;> cases decide (b.carrier = c) <;> cases decide (1 ≤ b.boxes.length) <;> cases decide (b.boxes.length ≤ 64) <;> cases decide (b.parents.length ≤ 64) <;> cases (b.parents.all nameB) <;> cases dayB b.issued <;> cases b.boxes.all rightB <;> cases onceB b.boxes <;> rfl
set_option maxHeartbeats 2000000 in
theorem r23_May {A : Nat → Prop} (w : World) (c : ByteArray) (b : BillD) (vb vp : Value) (hB : SlS A w vb b.boxes) (hP : SlS A w vp b.parents) (hok : b.Ok) (hcap : ∀ a n c, vb = .slice a n c → n ≤ c) :
    Ret Tryz.prog 99 [.string c, .agg ⟨encB b vb vp⟩] w fun v w' => v = .bool (mayF c b) ∧ Ex w w' := by
  have hBm := hB.small
  have hPm := hP.small
  obtain ⟨ab, cb, rfl, hzb, hrb⟩ := hB.is
  obtain ⟨ap, cp, rfl, hzp, hrp⟩ := hP.is
  simp only [List.length_map] at *
  unfold maxLen at hBm hPm
  refine ret_of Tryz.func99 Tryz.ntmps99 rfl rfl rfl ?_
  (repeat (first | refine cw_seq ?_ | refine cw_region ?_))
  refine lw_box rfl ?_
  intro b3 w1 hbb hb3 hx1 hs1
  replace hb3 : Blk w1 b3 (encB b (.slice ab b.boxes.length cb) (.slice ap b.parents.length cp)) 35 := hb3
  (repeat (first | refine lw_pure hT rfl ?_ | refine lw_nil ?_ | refine cw_seq ?_ | refine cw_region ?_ | refine qw_then ?_))
  refine lw_load hT rfl rfl (v := .string b.number) (hb3.cell 0) ?_
  (repeat (refine lw_pure hT rfl ?_))
  refine lw_load hT rfl rfl (v := .string b.shipper) (hb3.cell 2) ?_
  (repeat (refine lw_pure hT rfl ?_))
  refine lw_load hT rfl rfl (v := .string b.frm) (hb3.cell 3) ?_
  (repeat (refine lw_pure hT rfl ?_))
  refine lw_load hT rfl rfl (v := .string b.to_) (hb3.cell 4) ?_
  skip
  refine lw_buildSlice sl32 rfl rfl rfl ?_
  intro bn w3 hbn hn3 hx3 hs3
  have hb33 := hb3.ex hx3
  have hx03 := hx1.trans hx3
  have hB3 := hB.ex hx03
  have hP3 := hP.ex hx03
  skip
  refine lw_call hT rfl rfl (r23_names w3 (l := [b.number, b.shipper, b.frm, b.to_]) (sls_of_blk (l := [b.number, b.shipper, b.frm, b.to_]) hn3 (by simp [maxLen])) (by
    intro s hs
    simp only [List.mem_cons, List.not_mem_nil, or_false] at hs
    rcases hs with rfl | rfl | rfl | rfl
    · exact hok.number
    · exact hok.shipper
    · exact hok.frm
    · exact hok.to_)) ?_
  rintro _ _ ⟨rfl, rfl⟩
  have e0 : [b.number, b.shipper, b.frm, b.to_].all nameB = (nameB b.number && nameB b.shipper && nameB b.frm && nameB b.to_) := by simp [Bool.and_assoc]
  rw [e0]
  (repeat (refine lw_pure hT rfl ?_))
  have no : ∀ (v : Bool), mayF c b = v → QW (bodyPost Tryz.prog Tryz.f99 fun e w' => ∃ v, e = .returned v ∧ v = .bool (mayF c b) ∧ Ex w w') .ret 79 [(4, .bool v)] w3 := fun v hv => by
    subst hv
    exact qw_ret rfl ⟨rfl, hx03⟩
  refine lw_guard rfl (fun h1 => ?_) (fun h1 => ?_)
  · rw [Bool.not_eq_true'] at h1
    (repeat (first | refine lw_pure hT rfl ?_ | refine lw_nil ?_ | refine cw_seq ?_ | refine cw_region ?_ | refine qw_then ?_ | refine cw_ret ?_ | refine qw_then_ret ?_ | (refine lw_goff_t rfl ?_ ?_; focus (first | with_reducible rfl | with_reducible exact Bool.not_false | with_reducible exact Bool.not_true)) | (refine cw_cond_t rfl ?_ ?_; focus (first | with_reducible rfl | with_reducible exact Bool.not_false | with_reducible exact Bool.not_true))))
    exact qw_sub (by repeat (first | exact trivial | refine ⟨rfl, ?_⟩)) (no false (by simp only [mayF, h1]; rfl))
  · rw [Bool.not_eq_false'] at h1
    (repeat (first | refine lw_pure hT rfl ?_ | (refine lw_gon_f rfl ?_ ?_; focus (first | with_reducible rfl | with_reducible exact Bool.not_false | with_reducible exact Bool.not_true))))
    refine lw_load hT rfl rfl (v := .string b.carrier) (hb33.cell 1) ?_
    (repeat (first | refine lw_pure hT rfl ?_ | (refine lw_gon_f rfl ?_ ?_; focus (first | with_reducible rfl | with_reducible exact Bool.not_false | with_reducible exact Bool.not_true))))
    refine lw_guard rfl (fun h2 => ?_) (fun h2 => ?_)
    · have h2 : decide (b.carrier = c) = false := by simpa using h2
      (repeat (first | refine lw_pure hT rfl ?_ | refine lw_nil ?_ | refine cw_seq ?_ | refine cw_region ?_ | refine qw_then ?_ | refine cw_ret ?_ | refine qw_then_ret ?_ | (refine lw_goff_t rfl ?_ ?_; focus (first | with_reducible rfl | with_reducible exact Bool.not_false | with_reducible exact Bool.not_true)) | (refine cw_cond_t rfl ?_ ?_; focus (first | with_reducible rfl | with_reducible exact Bool.not_false | with_reducible exact Bool.not_true))))
      exact qw_sub (by repeat (first | exact trivial | refine ⟨rfl, ?_⟩)) (no false (by simp only [mayF, h2]; simp))
    · have h2 : decide (b.carrier = c) = true := by simpa using h2
      (repeat (first | refine lw_pure hT rfl ?_ | (refine lw_gon_f rfl ?_ ?_; focus (first | with_reducible rfl | with_reducible exact Bool.not_false | with_reducible exact Bool.not_true))))
      refine lw_load hT rfl rfl (v := .slice ab b.boxes.length cb) (hb33.cell 5) ?_
      (repeat (first | refine lw_pure hT rfl ?_ | (refine lw_gon_f rfl ?_ ?_; focus (first | with_reducible rfl | with_reducible exact Bool.not_false | with_reducible exact Bool.not_true))))
      refine lw_guard rfl (fun h3 => ?_) (fun h3 => ?_)
      · have h3 : decide (1 ≤ b.boxes.length) = false := by have := of_decide_eq_true h3; exact decide_eq_false (by omega)
        (repeat (first | refine lw_pure hT rfl ?_ | refine lw_nil ?_ | refine cw_seq ?_ | refine cw_region ?_ | refine qw_then ?_ | refine cw_ret ?_ | refine qw_then_ret ?_ | (refine lw_goff_t rfl ?_ ?_; focus (first | with_reducible rfl | with_reducible exact Bool.not_false | with_reducible exact Bool.not_true)) | (refine cw_cond_t rfl ?_ ?_; focus (first | with_reducible rfl | with_reducible exact Bool.not_false | with_reducible exact Bool.not_true))))
        exact qw_sub (by repeat (first | exact trivial | refine ⟨rfl, ?_⟩)) (no false (by simp only [mayF, h3]; simp))
      · have h3 : decide (1 ≤ b.boxes.length) = true := by have := of_decide_eq_false h3; exact decide_eq_true (by omega)
        (repeat (first | refine lw_pure hT rfl ?_ | (refine lw_gon_f rfl ?_ ?_; focus (first | with_reducible rfl | with_reducible exact Bool.not_false | with_reducible exact Bool.not_true))))
        refine lw_load hT rfl rfl (v := .slice ab b.boxes.length cb) (hb33.cell 5) ?_
        (repeat (first | refine lw_pure hT rfl ?_ | (refine lw_gon_f rfl ?_ ?_; focus (first | with_reducible rfl | with_reducible exact Bool.not_false | with_reducible exact Bool.not_true))))
        refine lw_guard rfl (fun h4 => ?_) (fun h4 => ?_)
        · have h4 : decide (b.boxes.length ≤ 64) = false := by have := of_decide_eq_true h4; exact decide_eq_false (by omega)
          (repeat (first | refine lw_pure hT rfl ?_ | refine lw_nil ?_ | refine cw_seq ?_ | refine cw_region ?_ | refine qw_then ?_ | refine cw_ret ?_ | refine qw_then_ret ?_ | (refine lw_goff_t rfl ?_ ?_; focus (first | with_reducible rfl | with_reducible exact Bool.not_false | with_reducible exact Bool.not_true)) | (refine cw_cond_t rfl ?_ ?_; focus (first | with_reducible rfl | with_reducible exact Bool.not_false | with_reducible exact Bool.not_true))))
          exact qw_sub (by repeat (first | exact trivial | refine ⟨rfl, ?_⟩)) (no false (by simp only [mayF, h4]; simp))
        · have h4 : decide (b.boxes.length ≤ 64) = true := by have := of_decide_eq_false h4; exact decide_eq_true (by omega)
          (repeat (first | refine lw_pure hT rfl ?_ | (refine lw_gon_f rfl ?_ ?_; focus (first | with_reducible rfl | with_reducible exact Bool.not_false | with_reducible exact Bool.not_true))))
          refine lw_load hT rfl rfl (v := .slice ap b.parents.length cp) (hb33.cell 6) ?_
          (repeat (first | refine lw_pure hT rfl ?_ | (refine lw_gon_f rfl ?_ ?_; focus (first | with_reducible rfl | with_reducible exact Bool.not_false | with_reducible exact Bool.not_true))))
          refine lw_guard rfl (fun h5 => ?_) (fun h5 => ?_)
          · have h5 : decide (b.parents.length ≤ 64) = false := by have := of_decide_eq_true h5; exact decide_eq_false (by omega)
            (repeat (first | refine lw_pure hT rfl ?_ | refine lw_nil ?_ | refine cw_seq ?_ | refine cw_region ?_ | refine qw_then ?_ | refine cw_ret ?_ | refine qw_then_ret ?_ | (refine lw_goff_t rfl ?_ ?_; focus (first | with_reducible rfl | with_reducible exact Bool.not_false | with_reducible exact Bool.not_true)) | (refine cw_cond_t rfl ?_ ?_; focus (first | with_reducible rfl | with_reducible exact Bool.not_false | with_reducible exact Bool.not_true))))
            exact qw_sub (by repeat (first | exact trivial | refine ⟨rfl, ?_⟩)) (no false (by simp only [mayF, h5]; simp))
          · have h5 : decide (b.parents.length ≤ 64) = true := by have := of_decide_eq_false h5; exact decide_eq_true (by omega)
            (repeat (first | refine lw_pure hT rfl ?_ | (refine lw_gon_f rfl ?_ ?_; focus (first | with_reducible rfl | with_reducible exact Bool.not_false | with_reducible exact Bool.not_true))))
            refine lw_load hT rfl rfl (v := .slice ap b.parents.length cp) (hb33.cell 6) ?_
            (repeat (refine lw_gon_f rfl ?_ ?_; focus (first | with_reducible rfl | with_reducible exact Bool.not_false | with_reducible exact Bool.not_true)))
            refine lw_call hT rfl rfl (r23_names w3 hP3 hok.parents) ?_
            rintro _ _ ⟨rfl, rfl⟩
            (repeat (first | refine lw_pure hT rfl ?_ | (refine lw_gon_f rfl ?_ ?_; focus (first | with_reducible rfl | with_reducible exact Bool.not_false | with_reducible exact Bool.not_true))))
            refine lw_guard rfl (fun h6 => ?_) (fun h6 => ?_)
            · rw [Bool.not_eq_true'] at h6
              (repeat (first | refine lw_pure hT rfl ?_ | refine lw_nil ?_ | refine cw_seq ?_ | refine cw_region ?_ | refine qw_then ?_ | refine cw_ret ?_ | refine qw_then_ret ?_ | (refine lw_goff_t rfl ?_ ?_; focus (first | with_reducible rfl | with_reducible exact Bool.not_false | with_reducible exact Bool.not_true)) | (refine cw_cond_t rfl ?_ ?_; focus (first | with_reducible rfl | with_reducible exact Bool.not_false | with_reducible exact Bool.not_true))))
              exact qw_sub (by repeat (first | exact trivial | refine ⟨rfl, ?_⟩)) (no false (by simp only [mayF, h6]; simp))
            · rw [Bool.not_eq_false'] at h6
              (repeat (first | refine lw_pure hT rfl ?_ | (refine lw_gon_f rfl ?_ ?_; focus (first | with_reducible rfl | with_reducible exact Bool.not_false | with_reducible exact Bool.not_true))))
              refine lw_load hT rfl rfl (v := .int .i64 b.issued) (hb33.cell 7) ?_
              (repeat (refine lw_gon_f rfl ?_ ?_; focus (first | with_reducible rfl | with_reducible exact Bool.not_false | with_reducible exact Bool.not_true)))
              refine lw_call hT rfl rfl (r23_Day _ w3) ?_
              rintro _ _ ⟨rfl, rfl⟩
              (repeat (first | refine lw_pure hT rfl ?_ | refine lw_nil ?_ | refine qw_then ?_ | (refine lw_gon_f rfl ?_ ?_; focus (first | with_reducible rfl | with_reducible exact Bool.not_false | with_reducible exact Bool.not_true))))
              refine cw_cond rfl (fun h7 => ?_) (fun h7 => ?_)
              · rw [Bool.not_eq_true'] at h7
                (repeat (first | refine lw_pure hT rfl ?_ | refine lw_nil ?_ | refine cw_seq ?_ | refine cw_region ?_ | refine qw_then ?_ | refine cw_ret ?_ | refine qw_then_ret ?_))
                exact qw_sub (by repeat (first | exact trivial | refine ⟨rfl, ?_⟩)) (no false (by simp only [mayF, h7]; simp))
              · rw [Bool.not_eq_false'] at h7
                have e : mayF c b = (b.boxes.all rightB && onceB b.boxes) := by simp only [mayF, h1, h2, h3, h4, h5, h6, h7, Bool.true_and]
                (repeat (first | refine lw_pure hT rfl ?_ | refine lw_nil ?_ | refine cw_seq ?_ | refine cw_region ?_ | refine qw_then ?_ | refine cw_skip ?_ | refine cw_block ?_))
                refine cw_loop (fun i : Nat => [(3, .pointer (some ⟨b3, 0, none⟩)), (5, .int .i64 (i : Nat))])
                  (fun i w' => Ex w3 w' ∧ i ≤ b.boxes.length ∧ ((b.boxes.take i).all rightB && onceB (b.boxes.take i)) = true) (fun i => b.boxes.length - i) 0 (by repeat (first | exact trivial | refine ⟨rfl, ?_⟩)) ⟨Ext.refl _ _, Nat.zero_le _, by simp [onceB]⟩ ?_
                rintro i w4 ⟨hx4, hi, ha⟩
                have hb34 := hb33.ex hx4
                (repeat (first | refine lw_pure hT rfl ?_ | refine cw_seq ?_ | refine cw_region ?_))
                refine lw_load hT rfl rfl (v := .slice ab b.boxes.length cb) (hb34.cell 5) ?_
                (repeat (first | refine lw_pure hT rfl ?_ | refine lw_nil ?_ | refine qw_then ?_))
                refine cw_cond rfl (fun h => ?_) (fun h => ?_)
                · have hlt : i < b.boxes.length := by simp at h; omega
                  have hg : b.boxes[i]? = some b.boxes[i] := List.getElem?_eq_getElem hlt
                  have hne : b.boxes.map (fun s => [Value.string s]) ≠ [] := by intro e; simp at e; rw [e] at hlt; simp at hlt
                  obtain ⟨bb, o, rfl, hA, hrd⟩ := hrb hne
                  have hrd' := hrd
                  obtain ⟨hlen, hrd⟩ := hrd i [.string b.boxes[i]] (by simp [hlt])
                  have hrd3 := hrd.ex hx03
                  simp only [Bool.and_eq_true] at ha
                  have hcb : b.boxes.length ≤ cb := hcap _ _ _ rfl
                  (repeat (first | refine cw_seq ?_ | refine qw_then ?_ | refine cw_skip ?_ | refine cw_block ?_))
                  refine cw_draw hM (fun w' => Ex w3 w') [] rfl rfl (by repeat (first | with_reducible refine nop_then ?_ | with_reducible refine nop_block ?_ | with_reducible exact nop_body)) (fun w5 hx5 _ => ⟨hx4.trans hx5, ?_⟩)
                  (refine rw_takeP 0 rfl rfl (by kernel_rfl) (by kernel_rfl) (by kernel_rfl) (by kernel_rfl) rfl (yo_pure hT rfl) ?_)
                  refine rw_take 1 rfl rfl (by kernel_rfl) (by kernel_rfl) (by kernel_rfl) (by kernel_rfl) rfl (yo_load hT rfl rfl (fun w' hS => Ex.cell hS (hb33.cell 5))) ?_
                  (refine rw_takeP 2 rfl rfl (by kernel_rfl) (by kernel_rfl) (by kernel_rfl) (by kernel_rfl) rfl (yo_pure hT rfl) ?_)
                  refine rw_takeP 3 rfl rfl (by kernel_rfl) (by kernel_rfl) (by kernel_rfl) (by kernel_rfl) rfl (yo_index hT rfl rfl rfl i rfl hlt) ?_
                  refine rw_take 4 rfl rfl (by kernel_rfl) (by kernel_rfl) (by kernel_rfl) (by kernel_rfl) rfl (yo_load hT rfl rfl (v := .string b.boxes[i]) (fun w' hS => Ex.cell hS (hrd3 0 _ rfl))) ?_
                  refine rw_one 5 rfl (by kernel_rfl) rfl (fun hcl => ?_)
                  skip
                  refine lw_call hT rfl rfl (r_Right b.boxes[i] w5 (hok.boxes _ (List.getElem_mem hlt))) ?_
                  rintro _ w6 ⟨rfl, hx6⟩
                  have hx36 := (hx4.trans hx5).trans hx6
                  (repeat (refine lw_nil ?_))
                  refine qw_rw (by repeat (first | with_reducible refine nop_then ?_ | with_reducible refine nop_block ?_ | with_reducible exact nop_body)) hcl (fun _ => hx36) ?_
                  (refine rw_takeP 6 rfl rfl (by kernel_rfl) (by kernel_rfl) (by kernel_rfl) (by kernel_rfl) rfl (yo_pure hT rfl) ?_; refine rw_takeP 7 rfl rfl (by kernel_rfl) (by kernel_rfl) (by kernel_rfl) (by kernel_rfl) rfl (yo_pure hT rfl) ?_)
                  refine rw_split (d := 67) rfl (fun h8 => ?_) (fun h8 => ?_)
                  · rw [Bool.not_eq_true'] at h8
                    (refine rw_takeP 8 rfl rfl (by kernel_rfl) (by kernel_rfl) (by kernel_rfl) (by kernel_rfl) rfl (yo_off rfl rfl) ?_; refine rw_takeP 9 rfl rfl (by kernel_rfl) (by kernel_rfl) (by kernel_rfl) (by kernel_rfl) rfl (yo_off rfl rfl) ?_; refine rw_takeP 10 rfl rfl (by kernel_rfl) (by kernel_rfl) (by kernel_rfl) (by kernel_rfl) rfl (yo_off rfl rfl) ?_; refine rw_takeP 11 rfl rfl (by kernel_rfl) (by kernel_rfl) (by kernel_rfl) (by kernel_rfl) rfl (yo_off rfl rfl) ?_; refine rw_takeP 12 rfl rfl (by kernel_rfl) (by kernel_rfl) (by kernel_rfl) (by kernel_rfl) rfl (yo_off rfl rfl) ?_; refine rw_takeP 13 rfl rfl (by kernel_rfl) (by kernel_rfl) (by kernel_rfl) (by kernel_rfl) rfl (yo_off rfl rfl) ?_; refine rw_takeP 14 rfl rfl (by kernel_rfl) (by kernel_rfl) (by kernel_rfl) (by kernel_rfl) rfl (yo_off rfl rfl) ?_; refine rw_takeP 15 rfl rfl (by kernel_rfl) (by kernel_rfl) (by kernel_rfl) (by kernel_rfl) rfl (yo_off rfl rfl) ?_; refine rw_takeP 16 rfl rfl (by kernel_rfl) (by kernel_rfl) (by kernel_rfl) (by kernel_rfl) rfl (yo_off rfl rfl) ?_; refine rw_takeP 17 rfl rfl (by kernel_rfl) (by kernel_rfl) (by kernel_rfl) (by kernel_rfl) rfl (yo_off rfl rfl) ?_)
                    (refine rw_takeP 18 rfl rfl (by kernel_rfl) (by kernel_rfl) (by kernel_rfl) (by kernel_rfl) rfl (yo_pure hT rfl) ?_)
                    refine rw_done (by kernel_rfl) ?_
                    (repeat (first | refine lw_pure hT rfl ?_ | refine lw_nil ?_ | refine cw_seq ?_ | refine cw_region ?_ | refine qw_then ?_ | refine cw_ret ?_ | refine qw_then_ret ?_ | refine qw_block_ret ?_ | (refine cw_cond_t rfl ?_ ?_; focus (first | with_reducible rfl | with_reducible exact Bool.not_false | with_reducible exact Bool.not_true))))
                    refine qw_ret rfl ⟨?_, hx03.trans hx36⟩
                    rw [e, once_bad hg (.inl h8)]; rfl
                  · rw [Bool.not_eq_false'] at h8
                    (refine rw_takeP 8 rfl rfl (by kernel_rfl) (by kernel_rfl) (by kernel_rfl) (by kernel_rfl) rfl (yo_on rfl rfl (yo_pure hT rfl)) ?_)
                    refine rw_take 9 rfl rfl (by kernel_rfl) (by kernel_rfl) (by kernel_rfl) (by kernel_rfl) rfl (yo_on rfl rfl (yo_load hT rfl rfl (fun w' hS => Ex.cell hS (hb33.cell 5)))) ?_
                    (refine rw_takeP 10 rfl rfl (by kernel_rfl) (by kernel_rfl) (by kernel_rfl) (by kernel_rfl) rfl (yo_on rfl rfl (yo_pure hT rfl)) ?_)
                    refine rw_takeP 11 rfl rfl (by kernel_rfl) (by kernel_rfl) (by kernel_rfl) (by kernel_rfl) rfl (yo_on rfl rfl (yo_slice_sl hT rfl rfl rfl rfl 0 i rfl rfl (Nat.zero_le _) (by omega))) ?_
                    (refine rw_takeP 12 rfl rfl (by kernel_rfl) (by kernel_rfl) (by kernel_rfl) (by kernel_rfl) rfl (yo_on rfl rfl (yo_pure hT rfl)) ?_)
                    refine rw_take 13 rfl rfl (by kernel_rfl) (by kernel_rfl) (by kernel_rfl) (by kernel_rfl) rfl (yo_on rfl rfl (yo_load hT rfl rfl (fun w' hS => Ex.cell hS (hb33.cell 5)))) ?_
                    (refine rw_takeP 14 rfl rfl (by kernel_rfl) (by kernel_rfl) (by kernel_rfl) (by kernel_rfl) rfl (yo_on rfl rfl (yo_pure hT rfl)) ?_)
                    refine rw_takeP 15 rfl rfl (by kernel_rfl) (by kernel_rfl) (by kernel_rfl) (by kernel_rfl) rfl (yo_on rfl rfl (yo_index hT rfl rfl rfl i rfl hlt)) ?_
                    refine rw_take 16 rfl rfl (by kernel_rfl) (by kernel_rfl) (by kernel_rfl) (by kernel_rfl) rfl (yo_on rfl rfl (yo_load hT rfl rfl (v := .string b.boxes[i]) (fun w' hS => Ex.cell hS (hrd3 0 _ rfl)))) ?_
                    refine rw_one 17 rfl (by kernel_rfl) rfl (fun hcl => ?_)
                    (repeat (refine lw_gon_f rfl ?_ ?_; focus (first | with_reducible rfl | with_reducible exact Bool.not_false | with_reducible exact Bool.not_true)))
                    have hsub : SlS A w6 (.slice (if cb = 0 then some ⟨bb, o, none⟩ else (some (⟨bb, o, none⟩ : Addr)).map (·.add (0 * 1))) (i - 0) (cb - 0)) (b.boxes.take i) := by
                      have e1 : (if cb = 0 then some (⟨bb, o, none⟩ : Addr) else (some (⟨bb, o, none⟩ : Addr)).map (·.add (0 * 1))) = some ⟨bb, o, none⟩ := by
                        rw [if_neg (by omega)]; rfl
                      rw [e1]
                      refine ⟨⟨_, cb - 0, by simp [Nat.min_eq_left hi], (fun h => by cases h), fun _ => ⟨bb, o, rfl, hA, fun j row hj => ?_⟩⟩, by simp [maxLen]; omega⟩
                      have hj' : (b.boxes.map fun s => [Value.string s])[j]? = some row := by
                        rw [List.getElem?_map, List.getElem?_take] at hj
                        split at hj
                        · rw [List.getElem?_map]; exact hj
                        · simp at hj
                      exact ⟨(hrd' j row hj').1, (hrd' j row hj').2.ex (hx03.trans hx36)⟩
                    refine lw_call hT rfl rfl (r23_in b.boxes[i] w6 hsub) ?_
                    rintro _ _ ⟨rfl, rfl⟩
                    have eq : ((b.boxes.take i).any fun y => decide (y = b.boxes[i])) = ((b.boxes.take i).any fun y => decide (b.boxes[i] = y)) := List.any_congr rfl fun y => by simp [eq_comm]
                    (repeat (refine lw_nil ?_))
                    refine qw_rw (by repeat (first | with_reducible refine nop_then ?_ | with_reducible refine nop_block ?_ | with_reducible exact nop_body)) hcl (fun _ => hx36) ?_
                    (refine rw_takeP 18 rfl rfl (by kernel_rfl) (by kernel_rfl) (by kernel_rfl) (by kernel_rfl) rfl (yo_pure hT rfl) ?_)
                    refine rw_done (by kernel_rfl) ?_
                    (repeat (refine qw_then ?_))
                    refine cw_cond rfl (fun h9 => ?_) (fun h9 => ?_)
                    · (repeat (first | refine lw_pure hT rfl ?_ | refine lw_nil ?_ | refine cw_seq ?_ | refine cw_region ?_ | refine qw_then ?_ | refine cw_ret ?_ | refine qw_then_ret ?_ | refine qw_block_ret ?_))
                      refine qw_ret rfl ⟨?_, hx03.trans hx36⟩
                      rw [e, once_bad hg (.inr (eq ▸ h9))]; rfl
                    · (repeat (first | (refine lw_add rfl rfl ?_ ?_ ?_; iterate 2 omega) | refine lw_pure hT rfl ?_ | refine lw_nil ?_ | refine cw_region ?_ | refine qw_then ?_ | refine cw_skip ?_ | refine qw_block ?_))
                      refine qw_round (i + 1) (by repeat (first | exact trivial | refine ⟨rfl, ?_⟩)) ⟨hx36, hlt, ?_⟩ (by omega)
                      rw [List.take_add_one, hg]
                      simp only [Option.toList_some]
                      rw [once_snoc, List.all_append, ← eq, h9, ha.1, ha.2]
                      simp [h8]
                · have : i = b.boxes.length := by simp at h; omega
                  subst this
                  rw [List.take_length] at ha
                  (repeat (first | refine lw_pure hT rfl ?_ | refine lw_nil ?_ | refine cw_seq ?_ | refine cw_region ?_ | refine qw_then ?_ | refine cw_ret ?_ | refine cw_exit ?_ | refine qw_block_exit ?_ | refine qw_then_exit ?_))
                  refine qw_ret rfl ⟨?_, hx03.trans hx4⟩
                  rw [e, ha]; rfl
end Go.Proofs.YtfbjpfgglgffgaaGreat
