import Derived.Test.YtnglkhnfmbnfeaaGreatMCs3
set_option linter.unusedVariables false
set_option linter.unusedSimpArgs false
set_option linter.unusedSectionVars false
set_option linter.unnecessarySimpa false
namespace Go.Proofs.YtnglkhnfmbnfeaaGreat
open Go Go.SK
set_option maxHeartbeats 4000000 in
theorem r23_Wrong {A A0 : Nat → Prop} {w : World} {vL : Value} {l : List EntD} {gs : List FG} (c : ByteArray) (hF : FRep A w vL l gs) (a : ActD) (vb vp : Value) (hk : 1 ≤ a.kind ∧ a.kind ≤ 5) (hto : a.to_.size ≤ maxLen) :
    Ret Tryz.prog 79 [.agg ⟨encR c vL⟩, .agg ⟨encAct a vb vp⟩] w fun v w' => v = .int .i64 (askC ⟨c, l⟩ a.ask) ∧ Ex w w' := by
  have hbill : a.ask.bill = a.bill := by
    have : a.kind = 1 ∨ a.kind = 2 ∨ a.kind = 3 ∨ a.kind = 4 ∨ a.kind = 5 := by omega
    rcases this with h | h | h | h | h <;> simp [ActD.ask, h]
  obtain ⟨aL, cL, hvL, hLm⟩ := hF.slice
  subst hvL
  unfold maxLen at hLm
  refine ret_of Tryz.func79 Tryz.ntmps79 rfl rfl rfl ?_
  (repeat (first | refine cw_seq ?_ | refine cw_region ?_))
  refine lw_box rfl ?_
  intro b2 w1 hbb2 hb2 hx1 hs1
  replace hb2 : Blk w1 b2 (encR c (.slice aL l.length cL)) 28 := hb2
  skip
  refine lw_box rfl ?_
  intro b3 w2 hbb3 hb3 hx2 hs2
  replace hb3 : Blk w2 b3 (encAct a vb vp) 73 := hb3
  have hx02 := hx1.trans hx2
  have hb22 := hb2.ex hx2
  (repeat (first | refine lw_pure hT rfl ?_ | refine lw_nil ?_ | refine cw_seq ?_ | refine cw_region ?_ | refine qw_then ?_))
  refine lw_load_agg hT rfl rfl rfl (vs := encR c (.slice aL l.length cL)) (hb22.rd 0 2) ?_
  (repeat (refine lw_pure hT rfl ?_))
  refine lw_load hT rfl rfl (v := .string a.bill) (hb3.cell 3) ?_
  skip
  refine lw_call hT rfl rfl (r23_Find c a.bill (hF.ex hx02)) ?_
  rintro _ w3 ⟨rfl, hx3⟩
  have hx03 := hx02.trans hx3
  have hb23 := hb22.ex hx3
  have hb33 := hb3.ex hx3
  have hF3 := hF.ex hx03
  rcases fidx_cases l a.bill with ⟨hi, hat⟩ | ⟨i, hil, hi, hat⟩
  · rw [hi]
    (repeat (first | refine lw_pure hT rfl ?_ | refine lw_nil ?_ | refine cw_seq ?_ | refine cw_region ?_ | refine qw_then ?_))
    refine cw_cond_t rfl (by decide) ?_
    (repeat (first | refine lw_pure hT rfl ?_ | refine lw_nil ?_ | refine cw_seq ?_ | refine cw_region ?_ | refine qw_then ?_ | refine cw_ret ?_ | refine qw_then_ret ?_))
    refine qw_ret rfl ⟨?_, hx03⟩
    have : RegD.at? ⟨c, l⟩ a.ask.bill = none := by rw [hbill]; exact hat
    simp only [askC, this]; rfl
  · rw [hi]
    have hask : askC ⟨c, l⟩ a.ask = wrongE l[i] a := by
      have : RegD.at? ⟨c, l⟩ a.ask.bill = some l[i] := by rw [hbill]; exact hat
      simp only [askC, this]; exact (wrongE_eq hk).symm
    rw [hask]
    obtain ⟨x, g, bL, oL, cL', hx_, hg_, hv, hrd, hE⟩ := hF3.row hil
    cases hv
    have hxi : x = l[i] := by rw [List.getElem?_eq_getElem hil] at hx_; exact (Option.some.inj hx_).symm
    rw [← hxi]
    (repeat (first | refine lw_pure hT rfl ?_ | refine lw_nil ?_ | refine cw_seq ?_ | refine cw_region ?_ | refine qw_then ?_))
    refine cw_cond_f rfl (decide_eq_false (by omega)) ?_
    (repeat (first | refine cw_skip ?_ | refine qw_then ?_ | refine cw_seq ?_))
    refine cw_then_cut (α := Unit) (fun _ => [(2, .pointer (some ⟨b2, 0, none⟩)), (3, .pointer (some ⟨b3, 0, none⟩)), (5, .int .i64 (i : Nat)), (41, .bool (badIx a))]) (fun _ w' => w3 = w') ?_ ?_
    · have fin : ∀ (v : Bool) fr, v = badIx a → subB [(2, .pointer (some ⟨b2, 0, none⟩)), (3, .pointer (some ⟨b3, 0, none⟩)), (5, .int .i64 (i : Nat)), (41, .bool v)] fr → ∀ {Q : Exit → Act → World → Prop}, QW (Exit.then (fun a' w' => ∃ s : Unit, Kn 139 [(2, .pointer (some ⟨b2, 0, none⟩)), (3, .pointer (some ⟨b3, 0, none⟩)), (5, .int .i64 (i : Nat)), (41, .bool (badIx a))] a' ∧ w3 = w') Q) .normal 139 fr w3 := by
        intro v fr hv hs Q; subst hv; exact qw_cut (F := fun _ : Unit => _) (I := fun _ w' => w3 = w') () hs rfl
      (repeat (first | refine lw_pure hT rfl ?_ | refine cw_region ?_))
      refine lw_load hT rfl rfl (v := .int .i64 a.kind) (hb33.cell 0) ?_
      (repeat (refine lw_pure hT rfl ?_))
      refine lw_guard rfl (fun h1 => ?_) (fun h1 => ?_)
      · (repeat (first | refine lw_pure hT rfl ?_ | (refine lw_gon_t rfl ?_ ?_; focus with_reducible (first | rfl | exact Bool.not_false | exact Bool.not_true))))
        refine lw_load hT rfl rfl (v := .int .i64 a.index) (hb33.cell 1) ?_
        (repeat (first | refine lw_pure hT rfl ?_ | (refine lw_gon_t rfl ?_ ?_; focus with_reducible (first | rfl | exact Bool.not_false | exact Bool.not_true))))
        refine lw_guard rfl (fun h2 => ?_) (fun h2 => ?_)
        · (repeat (first | refine lw_pure hT rfl ?_ | (refine lw_gon_t rfl ?_ ?_; focus with_reducible (first | rfl | exact Bool.not_false | exact Bool.not_true)) | (refine lw_goff_t rfl ?_ ?_; focus with_reducible (first | rfl | exact Bool.not_false | exact Bool.not_true))))
          refine lw_load hT rfl rfl (v := .int .i64 a.kind) (hb33.cell 0) ?_
          (repeat (first | refine lw_pure hT rfl ?_ | (refine lw_gon_t rfl ?_ ?_; focus with_reducible (first | rfl | exact Bool.not_false | exact Bool.not_true))))
          refine lw_guard rfl (fun h3 => ?_) (fun h3 => ?_)
          · (repeat (first | refine lw_pure hT rfl ?_ | (refine lw_gon_t rfl ?_ ?_; focus with_reducible (first | rfl | exact Bool.not_false | exact Bool.not_true))))
            refine lw_load hT rfl rfl (v := .int .i64 a.index) (hb33.cell 1) ?_
            (repeat (first | refine lw_pure hT rfl ?_ | refine lw_nil ?_ | (refine lw_gon_t rfl ?_ ?_; focus with_reducible (first | rfl | exact Bool.not_false | exact Bool.not_true))))
            exact fin _ _ (by simp only [badIx, h1, h2, h3]; rfl) (by repeat (first | exact trivial | refine ⟨rfl, ?_⟩))
          · (repeat (first | refine lw_pure hT rfl ?_ | refine lw_nil ?_ | (refine lw_gon_t rfl ?_ ?_; focus with_reducible (first | rfl | exact Bool.not_false | exact Bool.not_true)) | (refine lw_goff_f rfl ?_ ?_; focus with_reducible (first | rfl | exact Bool.not_false | exact Bool.not_true))))
            exact fin _ _ (by simp only [badIx, h1, h2, h3]; rfl) (by repeat (first | exact trivial | refine ⟨rfl, ?_⟩))
        · (repeat (first | refine lw_pure hT rfl ?_ | (refine lw_gon_f rfl ?_ ?_; focus with_reducible (first | rfl | exact Bool.not_false | exact Bool.not_true))))
          refine lw_load hT rfl rfl (v := .int .i64 a.index) (hb33.cell 1) ?_
          (repeat (first | refine lw_pure hT rfl ?_ | (refine lw_gon_t rfl ?_ ?_; focus with_reducible (first | rfl | exact Bool.not_false | exact Bool.not_true)) | (refine lw_gon_f rfl ?_ ?_; focus with_reducible (first | rfl | exact Bool.not_false | exact Bool.not_true))))
          refine lw_guard rfl (fun h4 => ?_) (fun h4 => ?_)
          · (repeat (first | refine lw_pure hT rfl ?_ | (refine lw_gon_t rfl ?_ ?_; focus with_reducible (first | rfl | exact Bool.not_false | exact Bool.not_true))))
            refine lw_load hT rfl rfl (v := .int .i64 a.kind) (hb33.cell 0) ?_
            (repeat (first | refine lw_pure hT rfl ?_ | (refine lw_gon_t rfl ?_ ?_; focus with_reducible (first | rfl | exact Bool.not_false | exact Bool.not_true))))
            refine lw_guard rfl (fun h3 => ?_) (fun h3 => ?_)
            · (repeat (first | refine lw_pure hT rfl ?_ | (refine lw_gon_t rfl ?_ ?_; focus with_reducible (first | rfl | exact Bool.not_false | exact Bool.not_true))))
              refine lw_load hT rfl rfl (v := .int .i64 a.index) (hb33.cell 1) ?_
              (repeat (first | refine lw_pure hT rfl ?_ | refine lw_nil ?_ | (refine lw_gon_t rfl ?_ ?_; focus with_reducible (first | rfl | exact Bool.not_false | exact Bool.not_true))))
              exact fin _ _ (by simp only [badIx, h1, h2, h3, h4]; rfl) (by repeat (first | exact trivial | refine ⟨rfl, ?_⟩))
            · (repeat (first | refine lw_pure hT rfl ?_ | refine lw_nil ?_ | (refine lw_gon_t rfl ?_ ?_; focus with_reducible (first | rfl | exact Bool.not_false | exact Bool.not_true)) | (refine lw_goff_f rfl ?_ ?_; focus with_reducible (first | rfl | exact Bool.not_false | exact Bool.not_true))))
              exact fin _ _ (by simp only [badIx, h1, h2, h3, h4]; rfl) (by repeat (first | exact trivial | refine ⟨rfl, ?_⟩))
          · (repeat (first | refine lw_pure hT rfl ?_ | refine lw_nil ?_ | refine lw_goff_u rfl ?_ | (refine lw_goff_f rfl ?_ ?_; focus with_reducible (first | rfl | exact Bool.not_false | exact Bool.not_true))))
            exact fin _ _ (by simp only [badIx, h1, h2, h4]; rfl) (by repeat (first | exact trivial | refine ⟨rfl, ?_⟩))
      · (repeat (first | refine lw_pure hT rfl ?_ | refine lw_nil ?_ | refine lw_goff_u rfl ?_ | (refine lw_goff_f rfl ?_ ?_; focus with_reducible (first | rfl | exact Bool.not_false | exact Bool.not_true))))
        exact fin _ _ (by simp only [badIx, h1]; rfl) (by repeat (first | exact trivial | refine ⟨rfl, ?_⟩))
    rintro _ _ rfl
    (repeat (refine qw_then ?_))
    refine cw_cond rfl (fun hb => ?_) (fun hb => ?_)
    · (repeat (first | refine lw_pure hT rfl ?_ | refine lw_nil ?_ | refine cw_seq ?_ | refine cw_region ?_ | refine qw_then ?_ | refine cw_ret ?_ | refine qw_then_ret ?_))
      exact qw_ret rfl ⟨by unfold wrongE; rw [if_pos hb]; rfl, hx03⟩
    (repeat (first | refine cw_skip ?_ | refine qw_then ?_ | refine cw_seq ?_))
    refine cw_then_cut (α := Unit) (fun _ => [(2, .pointer (some ⟨b2, 0, none⟩)), (3, .pointer (some ⟨b3, 0, none⟩)), (5, .int .i64 (i : Nat)), (68, .bool (badArg a))]) (fun _ w' => w3 = w') ?_ ?_
    · have fin : ∀ (v : Bool) fr, v = badArg a → subB [(2, .pointer (some ⟨b2, 0, none⟩)), (3, .pointer (some ⟨b3, 0, none⟩)), (5, .int .i64 (i : Nat)), (68, .bool v)] fr → ∀ {Q : Exit → Act → World → Prop}, QW (Exit.then (fun a' w' => ∃ s : Unit, Kn 139 [(2, .pointer (some ⟨b2, 0, none⟩)), (3, .pointer (some ⟨b3, 0, none⟩)), (5, .int .i64 (i : Nat)), (68, .bool (badArg a))] a' ∧ w3 = w') Q) .normal 139 fr w3 := by
        intro v fr hv hs Q; subst hv; exact qw_cut (F := fun _ : Unit => _) (I := fun _ w' => w3 = w') () hs rfl
      have tl : ∀ {d : Bool} {P Q : Prop}, P → P := fun h => h
      (repeat (first | refine lw_pure hT rfl ?_ | refine cw_region ?_))
      refine lw_load hT rfl rfl (v := .int .i64 a.kind) (hb33.cell 0) ?_
      (repeat (refine lw_pure hT rfl ?_))
      refine lw_guard rfl (fun h1 => ?_) (fun h1 => ?_)
      · (repeat (first | refine lw_pure hT rfl ?_ | (refine lw_gon_t rfl ?_ ?_; focus with_reducible (first | rfl | exact Bool.not_false | exact Bool.not_true))))
        refine lw_load hT rfl rfl (v := .int .i64 a.day) (hb33.cell 2) ?_
        (repeat (refine lw_gon_t rfl ?_ ?_; focus with_reducible (first | rfl | exact Bool.not_false | exact Bool.not_true)))
        refine lw_call hT rfl rfl (r23_Day _ w3) ?_
        rintro _ _ ⟨rfl, rfl⟩
        (repeat (first | refine lw_pure hT rfl ?_ | (refine lw_gon_t rfl ?_ ?_; focus with_reducible (first | rfl | exact Bool.not_false | exact Bool.not_true))))
        refine lw_guard rfl (fun h2 => ?_) (fun h2 => ?_)
        · (repeat (first | refine lw_pure hT rfl ?_ | refine lw_nil ?_ | refine lw_goff_u rfl ?_ | (refine lw_goff_t rfl ?_ ?_; focus with_reducible (first | rfl | exact Bool.not_false | exact Bool.not_true))))
          exact fin _ _ (by simp only [badArg, h1, h2]; rfl) (by repeat (first | exact trivial | refine ⟨rfl, ?_⟩))
        · (repeat (first | refine lw_pure hT rfl ?_ | (refine lw_gon_f rfl ?_ ?_; focus with_reducible (first | rfl | exact Bool.not_false | exact Bool.not_true))))
          refine lw_load hT rfl rfl (v := .int .i64 a.kind) (hb33.cell 0) ?_
          (repeat (first | refine lw_pure hT rfl ?_ | (refine lw_gon_f rfl ?_ ?_; focus with_reducible (first | rfl | exact Bool.not_false | exact Bool.not_true))))
          refine lw_guard rfl (fun h3 => ?_) (fun h3 => ?_)
          · (repeat (first | refine lw_pure hT rfl ?_ | (refine lw_gon_t rfl ?_ ?_; focus with_reducible (first | rfl | exact Bool.not_false | exact Bool.not_true))))
            refine lw_load hT rfl rfl (v := .string a.to_) (hb33.cell 5) ?_
            (repeat (refine lw_gon_t rfl ?_ ?_; focus with_reducible (first | rfl | exact Bool.not_false | exact Bool.not_true)))
            refine lw_call hT rfl rfl (r_Name _ w3 hto) ?_
            rintro _ _ ⟨rfl, rfl⟩
            (repeat (first | refine lw_pure hT rfl ?_ | (refine lw_gon_t rfl ?_ ?_; focus with_reducible (first | rfl | exact Bool.not_false | exact Bool.not_true))))
            refine lw_guard rfl (fun h4 => ?_) (fun h4 => ?_)
            · (repeat (first | refine lw_pure hT rfl ?_ | refine lw_nil ?_ | (refine lw_gon_t rfl ?_ ?_; focus with_reducible (first | rfl | exact Bool.not_false | exact Bool.not_true)) | (refine lw_goff_t rfl ?_ ?_; focus with_reducible (first | rfl | exact Bool.not_false | exact Bool.not_true)) | (refine lw_gon_f rfl ?_ ?_; focus with_reducible (first | rfl | exact Bool.not_false | exact Bool.not_true))))
              exact fin _ _ (by simp only [badArg, h1, h2, h3, h4]; rfl) (by repeat (first | exact trivial | refine ⟨rfl, ?_⟩))
            · (repeat (first | refine lw_pure hT rfl ?_ | (refine lw_gon_f rfl ?_ ?_; focus with_reducible (first | rfl | exact Bool.not_false | exact Bool.not_true))))
              refine lw_load hT rfl rfl (v := .string a.to_) (hb33.cell 5) ?_
              (repeat (first | refine lw_pure hT rfl ?_ | (refine lw_gon_f rfl ?_ ?_; focus with_reducible (first | rfl | exact Bool.not_false | exact Bool.not_true))))
              refine lw_load hT rfl rfl (v := .string a.by_) (hb33.cell 4) ?_
              (repeat (first | refine lw_pure hT rfl ?_ | refine lw_nil ?_ | (refine lw_gon_t rfl ?_ ?_; focus with_reducible (first | rfl | exact Bool.not_false | exact Bool.not_true)) | (refine lw_gon_f rfl ?_ ?_; focus with_reducible (first | rfl | exact Bool.not_false | exact Bool.not_true))))
              exact fin _ _ (by simp only [badArg, h1, h2, h3, h4]; rfl) (by repeat (first | exact trivial | refine ⟨rfl, ?_⟩))
          · (repeat (first | refine lw_pure hT rfl ?_ | refine lw_nil ?_ | refine lw_goff_u rfl ?_ | (refine lw_goff_f rfl ?_ ?_; focus with_reducible (first | rfl | exact Bool.not_false | exact Bool.not_true)) | (refine lw_gon_f rfl ?_ ?_; focus with_reducible (first | rfl | exact Bool.not_false | exact Bool.not_true))))
            exact fin _ _ (by simp only [badArg, h1, h2, h3]; rfl) (by repeat (first | exact trivial | refine ⟨rfl, ?_⟩))
      · (repeat (first | refine lw_pure hT rfl ?_ | (refine lw_goff_f rfl ?_ ?_; focus with_reducible (first | rfl | exact Bool.not_false | exact Bool.not_true)) | (refine lw_gon_f rfl ?_ ?_; focus with_reducible (first | rfl | exact Bool.not_false | exact Bool.not_true))))
        refine lw_load hT rfl rfl (v := .int .i64 a.kind) (hb33.cell 0) ?_
        (repeat (first | refine lw_pure hT rfl ?_ | (refine lw_gon_f rfl ?_ ?_; focus with_reducible (first | rfl | exact Bool.not_false | exact Bool.not_true))))
        refine lw_guard rfl (fun h3 => ?_) (fun h3 => ?_)
        · (repeat (first | refine lw_pure hT rfl ?_ | (refine lw_gon_t rfl ?_ ?_; focus with_reducible (first | rfl | exact Bool.not_false | exact Bool.not_true))))
          refine lw_load hT rfl rfl (v := .string a.to_) (hb33.cell 5) ?_
          (repeat (refine lw_gon_t rfl ?_ ?_; focus with_reducible (first | rfl | exact Bool.not_false | exact Bool.not_true)))
          refine lw_call hT rfl rfl (r_Name _ w3 hto) ?_
          rintro _ _ ⟨rfl, rfl⟩
          (repeat (first | refine lw_pure hT rfl ?_ | (refine lw_gon_t rfl ?_ ?_; focus with_reducible (first | rfl | exact Bool.not_false | exact Bool.not_true))))
          refine lw_guard rfl (fun h4 => ?_) (fun h4 => ?_)
          · (repeat (first | refine lw_pure hT rfl ?_ | refine lw_nil ?_ | (refine lw_gon_t rfl ?_ ?_; focus with_reducible (first | rfl | exact Bool.not_false | exact Bool.not_true)) | (refine lw_goff_t rfl ?_ ?_; focus with_reducible (first | rfl | exact Bool.not_false | exact Bool.not_true)) | (refine lw_gon_f rfl ?_ ?_; focus with_reducible (first | rfl | exact Bool.not_false | exact Bool.not_true))))
            exact fin _ _ (by simp only [badArg, h1, h3, h4]; rfl) (by repeat (first | exact trivial | refine ⟨rfl, ?_⟩))
          · (repeat (first | refine lw_pure hT rfl ?_ | (refine lw_gon_f rfl ?_ ?_; focus with_reducible (first | rfl | exact Bool.not_false | exact Bool.not_true))))
            refine lw_load hT rfl rfl (v := .string a.to_) (hb33.cell 5) ?_
            (repeat (first | refine lw_pure hT rfl ?_ | (refine lw_gon_f rfl ?_ ?_; focus with_reducible (first | rfl | exact Bool.not_false | exact Bool.not_true))))
            refine lw_load hT rfl rfl (v := .string a.by_) (hb33.cell 4) ?_
            (repeat (first | refine lw_pure hT rfl ?_ | refine lw_nil ?_ | (refine lw_gon_t rfl ?_ ?_; focus with_reducible (first | rfl | exact Bool.not_false | exact Bool.not_true)) | (refine lw_gon_f rfl ?_ ?_; focus with_reducible (first | rfl | exact Bool.not_false | exact Bool.not_true))))
            exact fin _ _ (by simp only [badArg, h1, h3, h4]; rfl) (by repeat (first | exact trivial | refine ⟨rfl, ?_⟩))
        · (repeat (first | refine lw_pure hT rfl ?_ | refine lw_nil ?_ | refine lw_goff_u rfl ?_ | (refine lw_goff_f rfl ?_ ?_; focus with_reducible (first | rfl | exact Bool.not_false | exact Bool.not_true)) | (refine lw_gon_f rfl ?_ ?_; focus with_reducible (first | rfl | exact Bool.not_false | exact Bool.not_true))))
          exact fin _ _ (by simp only [badArg, h1, h3]; rfl) (by repeat (first | exact trivial | refine ⟨rfl, ?_⟩))
    rintro _ _ rfl
    (repeat (refine qw_then ?_))
    refine cw_cond rfl (fun hba => ?_) (fun hba => ?_)
    · (repeat (first | refine lw_pure hT rfl ?_ | refine lw_nil ?_ | refine cw_seq ?_ | refine cw_region ?_ | refine qw_then ?_ | refine cw_ret ?_ | refine qw_then_ret ?_))
      exact qw_ret rfl ⟨by unfold wrongE; rw [hb, hba]; rfl, hx03⟩
    obtain ⟨eW, eI, eN⟩ := goodIx hk hb
    (repeat (first | refine cw_skip ?_ | refine qw_then ?_ | refine cw_seq ?_))
    refine cw_then_cut (α := Nat × Value) (fun s => [(3, .pointer (some ⟨b3, 0, none⟩)), (6, .pointer (some ⟨s.1, 0, none⟩)), (7, s.2), (8, .int .i64 0)]) (fun s w' => Ex w3 w' ∧ Blk w' s.1 (entF (x, g)) 56 ∧ SlI (fun b => w3.heap.size ≤ b) w' s.2 (whichD a)) ?_ ?_
    · refine cw_draw hM (fun w' => Ex w3 w') [] rfl rfl (by repeat with_reducible (first | refine nop_then ?_ | refine nop_block ?_ | exact nop_body)) (fun w4 hx4 _ => ⟨hx4, ?_⟩)
      (refine rw_takeP 0 rfl rfl (by kernel_rfl) (by kernel_rfl) (by kernel_rfl) (by kernel_rfl) rfl (yo_pure hT rfl) ?_)
      refine rw_take 1 rfl rfl (by kernel_rfl) (by kernel_rfl) (by kernel_rfl) (by kernel_rfl) rfl (yo_load hT rfl rfl (fun w' hS => Ex.cell hS (hb23.cell 1))) ?_
      (refine rw_takeP 2 rfl rfl (by kernel_rfl) (by kernel_rfl) (by kernel_rfl) (by kernel_rfl) rfl (yo_pure hT rfl) ?_)
      refine rw_takeP 3 rfl rfl (by kernel_rfl) (by kernel_rfl) (by kernel_rfl) (by kernel_rfl) rfl (yo_index hT rfl rfl rfl i rfl hil) ?_
      refine rw_take 4 rfl rfl (by kernel_rfl) (by kernel_rfl) (by kernel_rfl) (by kernel_rfl) rfl (yo_load_agg hT rfl rfl rfl (vs := entF (x, g)) (fun w' hS => hrd.ex hS)) ?_
      refine rw_take 5 rfl rfl (by kernel_rfl) (by kernel_rfl) (by kernel_rfl) (by kernel_rfl) rfl (yo_load_agg hT rfl rfl rfl (vs := encAct a vb vp) (fun w' hS => (hb33.ex hS).rd 0 15)) ?_
      have hl4 := hx4.size
      refine rw_two 6 7 rfl rfl (by kernel_rfl) rfl rfl (fun hcl => ?_) (fun hcl => ?_)
      · skip
        refine lw_call hT rfl rfl (r23_which a vb vp w4) ?_
        rintro v5 w5 ⟨hv5, hx5⟩
        have hl5 := hx5.size
        (repeat (refine lw_nil ?_))
        refine qw_rw (by repeat with_reducible (first | refine nop_then ?_ | refine nop_block ?_ | exact nop_body)) hcl (fun _ => hx4.trans hx5) ?_
        refine rw_one 7 rfl (by kernel_rfl) rfl (fun hcl => ?_)
        refine lw_alloc z56 ?_
        intro b6 w6 hbb6 hb6 hx6 hs6
        (repeat (refine lw_nil ?_))
        refine qw_rw (by repeat with_reducible (first | refine nop_then ?_ | refine nop_block ?_ | exact nop_body)) hcl (fun _ => (hx4.trans hx5).trans hx6) ?_
        refine rw_one 8 rfl (by kernel_rfl) rfl (fun hcl => ?_)
        refine lw_store_agg hT rfl rfl rfl rfl (entF_one hE) hb6 (show (11 : Nat) ≤ 11 by decide) ?_
        intro w7 hb7 hx7 hs7
        have hx37 := ((hx4.trans hx5).trans hx6).up_new hx7 (fun i hi => by omega)
        (repeat (refine lw_nil ?_))
        refine qw_rw (by repeat with_reducible (first | refine nop_then ?_ | refine nop_block ?_ | exact nop_body)) hcl (fun _ => hx37) ?_
        (refine rw_takeP 9 rfl rfl (by kernel_rfl) (by kernel_rfl) (by kernel_rfl) (by kernel_rfl) rfl (yo_pure hT rfl) ?_; refine rw_takeP 10 rfl rfl (by kernel_rfl) (by kernel_rfl) (by kernel_rfl) (by kernel_rfl) rfl (yo_pure hT rfl) ?_)
        refine rw_done (by kernel_rfl) ?_
        skip
        exact qw_cut (b6, v5) (by repeat (first | exact trivial | refine ⟨rfl, ?_⟩)) ⟨hx37, hb7, (((hv5.weaken (B := fun b => w3.heap.size ≤ b ∧ b ≠ b6) (fun b hb => ⟨by have := hb.1; omega, by have := hb.2; omega⟩)).ex hx6).ext hx7 (fun b hb => hb.2)).weaken fun b hb => hb.1⟩
      · refine lw_alloc z56 ?_
        intro b6 w6 hbb6 hb6 hx6 hs6
        (repeat (refine lw_nil ?_))
        refine qw_rw (by repeat with_reducible (first | refine nop_then ?_ | refine nop_block ?_ | exact nop_body)) hcl (fun _ => hx4.trans hx6) ?_
        refine rw_one 6 rfl (by kernel_rfl) rfl (fun hcl => ?_)
        skip
        refine lw_call hT rfl rfl (r23_which a vb vp w6) ?_
        rintro v5 w5 ⟨hv5, hx5⟩
        have hl5 := hx5.size
        have hb65 := hb6.ex hx5
        (repeat (refine lw_nil ?_))
        refine qw_rw (by repeat with_reducible (first | refine nop_then ?_ | refine nop_block ?_ | exact nop_body)) hcl (fun _ => (hx4.trans hx6).trans hx5) ?_
        refine rw_one 8 rfl (by kernel_rfl) rfl (fun hcl => ?_)
        refine lw_store_agg hT rfl rfl rfl rfl (entF_one hE) hb65 (show (11 : Nat) ≤ 11 by decide) ?_
        intro w7 hb7 hx7 hs7
        have hx37 := ((hx4.trans hx6).trans hx5).up_new hx7 (fun i hi => by omega)
        (repeat (refine lw_nil ?_))
        refine qw_rw (by repeat with_reducible (first | refine nop_then ?_ | refine nop_block ?_ | exact nop_body)) hcl (fun _ => hx37) ?_
        (refine rw_takeP 9 rfl rfl (by kernel_rfl) (by kernel_rfl) (by kernel_rfl) (by kernel_rfl) rfl (yo_pure hT rfl) ?_; refine rw_takeP 10 rfl rfl (by kernel_rfl) (by kernel_rfl) (by kernel_rfl) (by kernel_rfl) rfl (yo_pure hT rfl) ?_)
        refine rw_done (by kernel_rfl) ?_
        skip
        exact qw_cut (b6, v5) (by repeat (first | exact trivial | refine ⟨rfl, ?_⟩)) ⟨hx37, hb7, ((hv5.weaken (B := fun b => w3.heap.size ≤ b ∧ b ≠ b6) (fun b hb => ⟨by have := hb.1; omega, by have := hb.1; omega⟩)).ext hx7 (fun b hb => hb.2)).weaken fun b hb => hb.1⟩
    rintro ⟨b6, v7⟩ w4 ⟨hx4, hb6, hv7⟩
    dsimp only at hb6 hv7
    have hx04 := hx03.trans hx4
    have hb34 := hb33.ex hx4
    have hE4 := hE.ex hx4
    have hnn : ((whichD a).map fun i => [Value.int .i64 i]) ≠ [] := by rw [eW]; simp; exact eN
    have hwl : (whichD a).length = (whichN a).length := by rw [eW]; simp
    have hwm := hv7.small
    obtain ⟨va, vcap, hv7e, _, hvr⟩ := hv7.is
    subst hv7e
    obtain ⟨bw, ow, rfl, hbw, hwrd⟩ := hvr hnn
    simp only [List.length_map] at hwm ⊢
    unfold maxLen at hwm
    have hlen3 : (whichN a).length ≤ 3 := by rw [eI, ← ixs_eq]; exact Nat.le_trans (List.length_filter_le _ _) (by simp)
    have get : ∀ j (hj : j < (whichN a).length), (whichN a)[j] < 3 ∧ w4.cell? ⟨bw, ow + j * 1, none⟩ = some (.int .i64 ((whichN a)[j] : Nat)) := by
      intro j hj
      refine ⟨ixs_lt (index := a.ask.index) (eI ▸ List.getElem_mem hj), ?_⟩
      have h1 : ((whichD a).map fun i => [Value.int .i64 i])[j]? = some [.int .i64 ((whichN a)[j] : Nat)] := by
        rw [eW, List.map_map, List.getElem?_map, List.getElem?_eq_getElem hj]; rfl
      exact (hwrd j _ h1).2 0 _ rfl
    rw [hwl]
    (repeat (first | refine qw_then ?_ ))
    refine cw_seq ?_
    refine cw_then_cut (α := Unit) (fun _ => [(3, .pointer (some ⟨b3, 0, none⟩)), (6, .pointer (some ⟨b6, 0, none⟩)), (7, .slice (some ⟨bw, ow, none⟩) (whichN a).length vcap), (8, .int .i64 (stW a))]) (fun _ w' => w4 = w') ?_ ?_
    · (repeat (first | refine lw_pure hT rfl ?_ | refine cw_seq ?_ | refine cw_region ?_))
      refine lw_load hT rfl rfl (v := .int .i64 a.kind) (hb34.cell 0) ?_
      (repeat (first | refine lw_pure hT rfl ?_ | refine lw_nil ?_ | refine qw_then ?_))
      refine cw_cond rfl (fun h => ?_) (fun h => ?_)
      · have e : stW a = 3 := by unfold stW; rw [if_pos (by simpa using h)]
        rw [e]
        (repeat (first | refine lw_pure hT rfl ?_ | refine lw_nil ?_ | refine cw_region ?_))
        exact qw_cut () (by repeat (first | exact trivial | refine ⟨rfl, ?_⟩)) rfl
      · have e : stW a = 0 := by unfold stW; rw [if_neg (by simpa using h)]
        rw [e]
        (repeat (refine cw_skip ?_))
        exact qw_cut () (by repeat (first | exact trivial | refine ⟨rfl, ?_⟩)) rfl
    rintro _ _ rfl
    -- the first walk over the originals: their states
    (repeat (first | refine lw_pure hT rfl ?_ | refine lw_nil ?_ | refine cw_seq ?_ | refine cw_region ?_ | refine qw_then ?_ | refine cw_block ?_))
    refine cw_loop (fun j : Nat => [(3, .pointer (some ⟨b3, 0, none⟩)), (6, .pointer (some ⟨b6, 0, none⟩)), (7, .slice (some ⟨bw, ow, none⟩) (whichN a).length vcap), (8, .int .i64 (stW a)), (9, .int .i64 (j : Nat))])
      (fun j w' => Ex w4 w' ∧ j ≤ (whichN a).length ∧ ∀ j' (hj : j' < (whichN a).length), j' < j → (decide (x.state ≠ 0) || decide ((papAt x (whichN a)[j']).state ≠ stW a)) = false) (fun j => (whichN a).length - j) 0 (by repeat (first | exact trivial | refine ⟨rfl, ?_⟩)) ⟨Ext.refl _ _, Nat.zero_le _, fun j' _ h => by omega⟩ ?_
    rintro j w5 ⟨hx5, hj, hno⟩
    (repeat (first | refine lw_pure hT rfl ?_ | refine lw_nil ?_ | refine cw_seq ?_ | refine cw_region ?_ | refine qw_then ?_))
    refine cw_cond rfl (fun h => ?_) (fun h => ?_)
    · have hlt : j < (whichN a).length := by have := of_decide_eq_true h; omega
      obtain ⟨hk3, hcell⟩ := get j hlt
      obtain ⟨vc, bp, op, capp, hvP, _, hprd, _, _⟩ := hE4.paper hk3
      have step : (decide (x.state ≠ 0) || decide ((papAt x (whichN a)[j]).state ≠ stW a)) = false → ∀ j' (hj : j' < (whichN a).length), j' < j + 1 → (decide (x.state ≠ 0) || decide ((papAt x (whichN a)[j']).state ≠ stW a)) = false := by
        intro h' j' hj' hjj
        by_cases e : j' = j
        · subst e; exact h'
        · exact hno j' hj' (by omega)
      have hit : (decide (x.state ≠ 0) || decide ((papAt x (whichN a)[j]).state ≠ stW a)) = true → wrongE x a = 9 := fun h' => by
        unfold wrongE; rw [hb, hba, if_pos (List.any_eq_true.2 ⟨_, List.getElem_mem hlt, h'⟩)]; rfl
      (repeat (first | refine cw_seq ?_ | refine qw_then ?_ | refine cw_skip ?_ | refine cw_block ?_))
      refine cw_draw hM (fun w' => Ex w4 w') [] rfl rfl (by repeat with_reducible (first | refine nop_then ?_ | refine nop_block ?_ | exact nop_body)) (fun w6 hx6 _ => ⟨hx5.trans hx6, ?_⟩)
      (refine rw_takeP 0 rfl rfl (by kernel_rfl) (by kernel_rfl) (by kernel_rfl) (by kernel_rfl) rfl (yo_pure hT rfl) ?_)
      refine rw_take 1 rfl rfl (by kernel_rfl) (by kernel_rfl) (by kernel_rfl) (by kernel_rfl) rfl (yo_load hT rfl rfl (v := .int .i64 x.state) (fun w' hS => Ex.cell hS (hb6.cell 9))) ?_
      (refine rw_takeP 2 rfl rfl (by kernel_rfl) (by kernel_rfl) (by kernel_rfl) (by kernel_rfl) rfl (yo_pure hT rfl) ?_; refine rw_takeP 3 rfl rfl (by kernel_rfl) (by kernel_rfl) (by kernel_rfl) (by kernel_rfl) rfl (yo_pure hT rfl) ?_)
      refine rw_split (d := 88) rfl (fun h8 => ?_) (fun h8 => ?_)
      · (refine rw_takeP 4 rfl rfl (by kernel_rfl) (by kernel_rfl) (by kernel_rfl) (by kernel_rfl) rfl (yo_off rfl rfl) ?_; refine rw_takeP 5 rfl rfl (by kernel_rfl) (by kernel_rfl) (by kernel_rfl) (by kernel_rfl) rfl (yo_off rfl rfl) ?_; refine rw_takeP 6 rfl rfl (by kernel_rfl) (by kernel_rfl) (by kernel_rfl) (by kernel_rfl) rfl (yo_off rfl rfl) ?_; refine rw_takeP 7 rfl rfl (by kernel_rfl) (by kernel_rfl) (by kernel_rfl) (by kernel_rfl) rfl (yo_off rfl rfl) ?_; refine rw_takeP 8 rfl rfl (by kernel_rfl) (by kernel_rfl) (by kernel_rfl) (by kernel_rfl) rfl (yo_off rfl rfl) ?_; refine rw_takeP 9 rfl rfl (by kernel_rfl) (by kernel_rfl) (by kernel_rfl) (by kernel_rfl) rfl (yo_off rfl rfl) ?_; refine rw_takeP 10 rfl rfl (by kernel_rfl) (by kernel_rfl) (by kernel_rfl) (by kernel_rfl) rfl (yo_off rfl rfl) ?_; refine rw_takeP 11 rfl rfl (by kernel_rfl) (by kernel_rfl) (by kernel_rfl) (by kernel_rfl) rfl (yo_off rfl rfl) ?_; refine rw_takeP 12 rfl rfl (by kernel_rfl) (by kernel_rfl) (by kernel_rfl) (by kernel_rfl) rfl (yo_off rfl rfl) ?_; refine rw_takeP 13 rfl rfl (by kernel_rfl) (by kernel_rfl) (by kernel_rfl) (by kernel_rfl) rfl (yo_off rfl rfl) ?_; refine rw_takeP 14 rfl rfl (by kernel_rfl) (by kernel_rfl) (by kernel_rfl) (by kernel_rfl) rfl (yo_off rfl rfl) ?_)
        (refine rw_takeP 15 rfl rfl (by kernel_rfl) (by kernel_rfl) (by kernel_rfl) (by kernel_rfl) rfl (yo_pure hT rfl) ?_)
        refine rw_done (by kernel_rfl) ?_
        (repeat (first | refine lw_pure hT rfl ?_ | refine lw_nil ?_ | refine cw_seq ?_ | refine cw_region ?_ | refine qw_then ?_ | refine cw_ret ?_ | refine qw_then_ret ?_ | refine qw_block_ret ?_ | (refine cw_cond_t rfl ?_ ?_; focus with_reducible (first | rfl | exact Bool.not_false | exact Bool.not_true))))
        exact qw_ret rfl ⟨by rw [hit (by rw [h8]; rfl)]; rfl, (hx04.trans hx5).trans hx6⟩
      · (refine rw_takeP 4 rfl rfl (by kernel_rfl) (by kernel_rfl) (by kernel_rfl) (by kernel_rfl) rfl (yo_on rfl rfl (yo_pure hT rfl)) ?_)
        refine rw_take 5 rfl rfl (by kernel_rfl) (by kernel_rfl) (by kernel_rfl) (by kernel_rfl) rfl (yo_on rfl rfl (yo_load hT rfl rfl (fun w' hS => Ex.cell hS ((hb6.cell 10).trans (congrArg some hvP))))) ?_
        (refine rw_takeP 6 rfl rfl (by kernel_rfl) (by kernel_rfl) (by kernel_rfl) (by kernel_rfl) rfl (yo_on rfl rfl (yo_pure hT rfl)) ?_; refine rw_takeP 7 rfl rfl (by kernel_rfl) (by kernel_rfl) (by kernel_rfl) (by kernel_rfl) rfl (yo_on rfl rfl (yo_pure hT rfl)) ?_)
        refine rw_takeP 8 rfl rfl (by kernel_rfl) (by kernel_rfl) (by kernel_rfl) (by kernel_rfl) rfl (yo_on rfl rfl (yo_index hT rfl rfl rfl j rfl hlt)) ?_
        refine rw_take 9 rfl rfl (by kernel_rfl) (by kernel_rfl) (by kernel_rfl) (by kernel_rfl) rfl (yo_on rfl rfl (yo_load hT rfl rfl (fun w' hS => Ex.cell hS hcell))) ?_
        refine rw_takeP 10 rfl rfl (by kernel_rfl) (by kernel_rfl) (by kernel_rfl) (by kernel_rfl) rfl (yo_on rfl rfl (yo_index hT rfl rfl rfl ((whichN a)[j]) rfl hk3)) ?_
        (refine rw_takeP 11 rfl rfl (by kernel_rfl) (by kernel_rfl) (by kernel_rfl) (by kernel_rfl) rfl (yo_on rfl rfl (yo_pure hT rfl)) ?_)
        refine rw_take 12 rfl rfl (by kernel_rfl) (by kernel_rfl) (by kernel_rfl) (by kernel_rfl) rfl (yo_on rfl rfl (yo_load hT rfl rfl (v := .int .i64 (papAt x (whichN a)[j]).state) (fun w' hS => Ex.cell hS (hprd 0 _ rfl)))) ?_
        (refine rw_takeP 13 rfl rfl (by kernel_rfl) (by kernel_rfl) (by kernel_rfl) (by kernel_rfl) rfl (yo_on rfl rfl (yo_pure hT rfl)) ?_; refine rw_takeP 14 rfl rfl (by kernel_rfl) (by kernel_rfl) (by kernel_rfl) (by kernel_rfl) rfl (yo_on rfl rfl (yo_pure hT rfl)) ?_)
        (refine rw_takeP 15 rfl rfl (by kernel_rfl) (by kernel_rfl) (by kernel_rfl) (by kernel_rfl) rfl (yo_pure hT rfl) ?_)
        refine rw_done (by kernel_rfl) ?_
        (repeat (refine qw_then ?_))
        refine cw_cond rfl (fun h9 => ?_) (fun h9 => ?_)
        · (repeat (first | refine lw_pure hT rfl ?_ | refine lw_nil ?_ | refine cw_seq ?_ | refine cw_region ?_ | refine qw_then ?_ | refine cw_ret ?_ | refine qw_then_ret ?_ | refine qw_block_ret ?_))
          exact qw_ret rfl ⟨by rw [hit (by rw [h8, h9]; rfl)]; rfl, (hx04.trans hx5).trans hx6⟩
        · (repeat (first | (refine lw_add rfl rfl ?_ ?_ ?_; iterate 2 omega) | refine lw_pure hT rfl ?_ | refine lw_nil ?_ | refine cw_region ?_ | refine qw_then ?_ | refine cw_skip ?_ | refine qw_block ?_))
          exact qw_round (j + 1) (by repeat (first | exact trivial | refine ⟨rfl, ?_⟩)) ⟨hx5.trans hx6, hlt, step (by rw [h8, h9]; rfl)⟩ (by omega)
    · have : j = (whichN a).length := by have := of_decide_eq_false h; omega
      subst this
      have q2 : (whichN a).any (fun k => decide (x.state ≠ 0) || decide ((papAt x k).state ≠ stW a)) = false := by
        rw [List.any_eq_false]
        intro k hkm
        obtain ⟨j', hj', rfl⟩ := List.getElem_of_mem hkm
        rw [hno j' hj' hj']; decide
      -- the second: their holders
      (repeat (first | refine lw_pure hT rfl ?_ | refine lw_nil ?_ | refine cw_seq ?_ | refine cw_region ?_ | refine qw_then ?_ | refine cw_block ?_ | refine cw_exit ?_ | refine qw_block_exit ?_ | refine qw_then_exit ?_))
      refine cw_loop (fun j : Nat => [(3, .pointer (some ⟨b3, 0, none⟩)), (6, .pointer (some ⟨b6, 0, none⟩)), (7, .slice (some ⟨bw, ow, none⟩) (whichN a).length vcap), (10, .int .i64 (j : Nat))])
        (fun j w' => Ex w4 w' ∧ j ≤ (whichN a).length ∧ ∀ j' (hj : j' < (whichN a).length), j' < j → decide ((papAt x (whichN a)[j']).holder ≠ a.by_) = false) (fun j => (whichN a).length - j) 0 (by repeat (first | exact trivial | refine ⟨rfl, ?_⟩)) ⟨hx5, Nat.zero_le _, fun j' _ h => by omega⟩ ?_
      rintro j w7 ⟨hx7, hj, hno2⟩
      (repeat (first | refine lw_pure hT rfl ?_ | refine lw_nil ?_ | refine cw_seq ?_ | refine cw_region ?_ | refine qw_then ?_))
      refine cw_cond rfl (fun h => ?_) (fun h => ?_)
      · have hlt : j < (whichN a).length := by have := of_decide_eq_true h; omega
        obtain ⟨hk3, hcell⟩ := get j hlt
        obtain ⟨vc, bp, op, capp, hvP, _, hprd, _, _⟩ := hE4.paper hk3
        (repeat (first | refine cw_seq ?_ | refine qw_then ?_ | refine cw_skip ?_ | refine cw_block ?_))
        refine cw_draw hM (fun w' => Ex w4 w') [] rfl rfl (by repeat with_reducible (first | refine nop_then ?_ | refine nop_block ?_ | exact nop_body)) (fun w8 hx8 _ => ⟨hx7.trans hx8, ?_⟩)
        (refine rw_takeP 0 rfl rfl (by kernel_rfl) (by kernel_rfl) (by kernel_rfl) (by kernel_rfl) rfl (yo_pure hT rfl) ?_)
        refine rw_take 1 rfl rfl (by kernel_rfl) (by kernel_rfl) (by kernel_rfl) (by kernel_rfl) rfl (yo_load hT rfl rfl (fun w' hS => Ex.cell hS ((hb6.cell 10).trans (congrArg some hvP)))) ?_
        (refine rw_takeP 2 rfl rfl (by kernel_rfl) (by kernel_rfl) (by kernel_rfl) (by kernel_rfl) rfl (yo_pure hT rfl) ?_; refine rw_takeP 3 rfl rfl (by kernel_rfl) (by kernel_rfl) (by kernel_rfl) (by kernel_rfl) rfl (yo_pure hT rfl) ?_)
        refine rw_takeP 4 rfl rfl (by kernel_rfl) (by kernel_rfl) (by kernel_rfl) (by kernel_rfl) rfl (yo_index hT rfl rfl rfl j rfl hlt) ?_
        refine rw_take 5 rfl rfl (by kernel_rfl) (by kernel_rfl) (by kernel_rfl) (by kernel_rfl) rfl (yo_load hT rfl rfl (fun w' hS => Ex.cell hS hcell)) ?_
        refine rw_takeP 6 rfl rfl (by kernel_rfl) (by kernel_rfl) (by kernel_rfl) (by kernel_rfl) rfl (yo_index hT rfl rfl rfl ((whichN a)[j]) rfl hk3) ?_
        (refine rw_takeP 7 rfl rfl (by kernel_rfl) (by kernel_rfl) (by kernel_rfl) (by kernel_rfl) rfl (yo_pure hT rfl) ?_)
        refine rw_take 8 rfl rfl (by kernel_rfl) (by kernel_rfl) (by kernel_rfl) (by kernel_rfl) rfl (yo_load hT rfl rfl (v := .string (papAt x (whichN a)[j]).holder) (fun w' hS => Ex.cell hS (hprd 1 _ rfl))) ?_
        (refine rw_takeP 9 rfl rfl (by kernel_rfl) (by kernel_rfl) (by kernel_rfl) (by kernel_rfl) rfl (yo_pure hT rfl) ?_)
        refine rw_take 10 rfl rfl (by kernel_rfl) (by kernel_rfl) (by kernel_rfl) (by kernel_rfl) rfl (yo_load hT rfl rfl (v := .string a.by_) (fun w' hS => Ex.cell hS (hb34.cell 4))) ?_
        (refine rw_takeP 11 rfl rfl (by kernel_rfl) (by kernel_rfl) (by kernel_rfl) (by kernel_rfl) rfl (yo_pure hT rfl) ?_)
        refine rw_done (by kernel_rfl) ?_
        (repeat (refine qw_then ?_))
        refine cw_cond rfl (fun h9 => ?_) (fun h9 => ?_)
        · (repeat (first | refine lw_pure hT rfl ?_ | refine lw_nil ?_ | refine cw_seq ?_ | refine cw_region ?_ | refine qw_then ?_ | refine cw_ret ?_ | refine qw_then_ret ?_ | refine qw_block_ret ?_))
          refine qw_ret rfl ⟨?_, (hx04.trans hx7).trans hx8⟩
          have : wrongE x a = 8 := by unfold wrongE; rw [hb, hba, q2, if_pos (List.any_eq_true.2 ⟨_, List.getElem_mem hlt, h9⟩)]; rfl
          rw [this]; rfl
        · (repeat (first | (refine lw_add rfl rfl ?_ ?_ ?_; iterate 2 omega) | refine lw_pure hT rfl ?_ | refine lw_nil ?_ | refine cw_region ?_ | refine qw_then ?_ | refine cw_skip ?_ | refine qw_block ?_))
          refine qw_round (j + 1) (by repeat (first | exact trivial | refine ⟨rfl, ?_⟩)) ⟨hx7.trans hx8, hlt, fun j' hj' hjj => ?_⟩ (by omega)
          by_cases e : j' = j
          · subst e; exact h9
          · exact hno2 j' hj' (by omega)
      · have : j = (whichN a).length := by have := of_decide_eq_false h; omega
        subst this
        have q3 : (whichN a).any (fun k => decide ((papAt x k).holder ≠ a.by_)) = false := by
          rw [List.any_eq_false]
          intro k hkm
          obtain ⟨j', hj', rfl⟩ := List.getElem_of_mem hkm
          rw [hno2 j' hj' hj']; decide
        -- the third: their days
        (repeat (first | refine lw_pure hT rfl ?_ | refine lw_nil ?_ | refine cw_seq ?_ | refine cw_region ?_ | refine qw_then ?_ | refine cw_block ?_ | refine cw_exit ?_ | refine qw_block_exit ?_ | refine qw_then_exit ?_))
        refine cw_loop (fun j : Nat => [(3, .pointer (some ⟨b3, 0, none⟩)), (6, .pointer (some ⟨b6, 0, none⟩)), (7, .slice (some ⟨bw, ow, none⟩) (whichN a).length vcap), (11, .int .i64 (j : Nat))])
          (fun j w' => Ex w4 w' ∧ j ≤ (whichN a).length ∧ ∀ j' (hj : j' < (whichN a).length), j' < j → (decide (a.kind ≠ 3) && decide (a.day < untilD x.bill (papAt x (whichN a)[j']))) = false) (fun j => (whichN a).length - j) 0 (by repeat (first | exact trivial | refine ⟨rfl, ?_⟩)) ⟨hx7, Nat.zero_le _, fun j' _ h => by omega⟩ ?_
        rintro j w9 ⟨hx9, hj, hno3⟩
        (repeat (first | refine lw_pure hT rfl ?_ | refine lw_nil ?_ | refine cw_seq ?_ | refine cw_region ?_ | refine qw_then ?_))
        refine cw_cond rfl (fun h => ?_) (fun h => ?_)
        · have hlt : j < (whichN a).length := by have := of_decide_eq_true h; omega
          obtain ⟨hk3, hcell⟩ := get j hlt
          have step : (decide (a.kind ≠ 3) && decide (a.day < untilD x.bill (papAt x (whichN a)[j]))) = false → ∀ j' (hj : j' < (whichN a).length), j' < j + 1 → (decide (a.kind ≠ 3) && decide (a.day < untilD x.bill (papAt x (whichN a)[j']))) = false := by
            intro h' j' hj' hjj
            by_cases e : j' = j
            · subst e; exact h'
            · exact hno3 j' hj' (by omega)
          (repeat (first | refine cw_seq ?_ | refine qw_then ?_ | refine cw_skip ?_ | refine cw_block ?_))
          refine cw_draw hM (fun w' => Ex w4 w') [] rfl rfl (by repeat with_reducible (first | refine nop_then ?_ | refine nop_block ?_ | exact nop_body)) (fun w10 hx10 _ => ⟨hx9.trans hx10, ?_⟩)
          (refine rw_takeP 0 rfl rfl (by kernel_rfl) (by kernel_rfl) (by kernel_rfl) (by kernel_rfl) rfl (yo_pure hT rfl) ?_)
          refine rw_take 1 rfl rfl (by kernel_rfl) (by kernel_rfl) (by kernel_rfl) (by kernel_rfl) rfl (yo_load hT rfl rfl (v := .int .i64 a.kind) (fun w' hS => Ex.cell hS (hb34.cell 0))) ?_
          (refine rw_takeP 2 rfl rfl (by kernel_rfl) (by kernel_rfl) (by kernel_rfl) (by kernel_rfl) rfl (yo_pure hT rfl) ?_; refine rw_takeP 3 rfl rfl (by kernel_rfl) (by kernel_rfl) (by kernel_rfl) (by kernel_rfl) rfl (yo_pure hT rfl) ?_)
          refine rw_split (d := 128) rfl (fun h8 => ?_) (fun h8 => ?_)
          · (refine rw_takeP 4 rfl rfl (by kernel_rfl) (by kernel_rfl) (by kernel_rfl) (by kernel_rfl) rfl (yo_on rfl rfl (yo_pure hT rfl)) ?_)
            refine rw_take 5 rfl rfl (by kernel_rfl) (by kernel_rfl) (by kernel_rfl) (by kernel_rfl) rfl (yo_on rfl rfl (yo_load hT rfl rfl (v := .int .i64 a.day) (fun w' hS => Ex.cell hS (hb34.cell 2)))) ?_
            refine rw_take 6 rfl rfl (by kernel_rfl) (by kernel_rfl) (by kernel_rfl) (by kernel_rfl) rfl (yo_on rfl rfl (yo_load_agg hT rfl rfl rfl (vs := entF (x, g)) (fun w' hS => (hb6.ex hS).rd 0 11))) ?_
            (refine rw_takeP 7 rfl rfl (by kernel_rfl) (by kernel_rfl) (by kernel_rfl) (by kernel_rfl) rfl (yo_on rfl rfl (yo_pure hT rfl)) ?_; refine rw_takeP 8 rfl rfl (by kernel_rfl) (by kernel_rfl) (by kernel_rfl) (by kernel_rfl) rfl (yo_on rfl rfl (yo_pure hT rfl)) ?_)
            refine rw_takeP 9 rfl rfl (by kernel_rfl) (by kernel_rfl) (by kernel_rfl) (by kernel_rfl) rfl (yo_on rfl rfl (yo_index hT rfl rfl rfl j rfl hlt)) ?_
            refine rw_take 10 rfl rfl (by kernel_rfl) (by kernel_rfl) (by kernel_rfl) (by kernel_rfl) rfl (yo_on rfl rfl (yo_load hT rfl rfl (fun w' hS => Ex.cell hS hcell))) ?_
            refine rw_one 11 rfl (by kernel_rfl) rfl (fun hcl => ?_)
            (repeat (refine lw_gon_t rfl ?_ ?_; focus with_reducible (first | rfl | exact Bool.not_false | exact Bool.not_true)))
            refine lw_call hT rfl rfl (r23_until (hE4.ex (hx9.trans hx10)) hk3) ?_
            rintro _ w11 ⟨rfl, hx11⟩
            (repeat (refine lw_nil ?_))
            refine qw_rw (by repeat with_reducible (first | refine nop_then ?_ | refine nop_block ?_ | exact nop_body)) hcl (fun _ => (hx9.trans hx10).trans hx11) ?_
            (refine rw_takeP 12 rfl rfl (by kernel_rfl) (by kernel_rfl) (by kernel_rfl) (by kernel_rfl) rfl (yo_on rfl rfl (yo_pure hT rfl)) ?_)
            (refine rw_takeP 13 rfl rfl (by kernel_rfl) (by kernel_rfl) (by kernel_rfl) (by kernel_rfl) rfl (yo_pure hT rfl) ?_)
            refine rw_done (by kernel_rfl) ?_
            (repeat (refine qw_then ?_))
            refine cw_cond rfl (fun h9 => ?_) (fun h9 => ?_)
            · (repeat (first | refine lw_pure hT rfl ?_ | refine lw_nil ?_ | refine cw_seq ?_ | refine cw_region ?_ | refine qw_then ?_ | refine cw_ret ?_ | refine qw_then_ret ?_ | refine qw_block_ret ?_))
              refine qw_ret rfl ⟨?_, ((hx04.trans hx9).trans hx10).trans hx11⟩
              have : wrongE x a = 6 := by unfold wrongE; rw [hb, hba, q2, q3, if_pos (List.any_eq_true.2 ⟨_, List.getElem_mem hlt, by rw [h8, h9]; rfl⟩)]; rfl
              rw [this]; rfl
            · (repeat (first | (refine lw_add rfl rfl ?_ ?_ ?_; iterate 2 omega) | refine lw_pure hT rfl ?_ | refine lw_nil ?_ | refine cw_region ?_ | refine qw_then ?_ | refine cw_skip ?_ | refine qw_block ?_))
              exact qw_round (j + 1) (by repeat (first | exact trivial | refine ⟨rfl, ?_⟩)) ⟨(hx9.trans hx10).trans hx11, hlt, step (by rw [h9]; simp)⟩ (by omega)
          · (refine rw_takeP 4 rfl rfl (by kernel_rfl) (by kernel_rfl) (by kernel_rfl) (by kernel_rfl) rfl (yo_off rfl rfl) ?_; refine rw_takeP 5 rfl rfl (by kernel_rfl) (by kernel_rfl) (by kernel_rfl) (by kernel_rfl) rfl (yo_off rfl rfl) ?_; refine rw_takeP 6 rfl rfl (by kernel_rfl) (by kernel_rfl) (by kernel_rfl) (by kernel_rfl) rfl (yo_off rfl rfl) ?_; refine rw_takeP 7 rfl rfl (by kernel_rfl) (by kernel_rfl) (by kernel_rfl) (by kernel_rfl) rfl (yo_off rfl rfl) ?_; refine rw_takeP 8 rfl rfl (by kernel_rfl) (by kernel_rfl) (by kernel_rfl) (by kernel_rfl) rfl (yo_off rfl rfl) ?_; refine rw_takeP 9 rfl rfl (by kernel_rfl) (by kernel_rfl) (by kernel_rfl) (by kernel_rfl) rfl (yo_off rfl rfl) ?_; refine rw_takeP 10 rfl rfl (by kernel_rfl) (by kernel_rfl) (by kernel_rfl) (by kernel_rfl) rfl (yo_off rfl rfl) ?_; refine rw_takeP 11 rfl rfl (by kernel_rfl) (by kernel_rfl) (by kernel_rfl) (by kernel_rfl) rfl (yo_off rfl rfl) ?_; refine rw_takeP 12 rfl rfl (by kernel_rfl) (by kernel_rfl) (by kernel_rfl) (by kernel_rfl) rfl (yo_off rfl rfl) ?_)
            (refine rw_takeP 13 rfl rfl (by kernel_rfl) (by kernel_rfl) (by kernel_rfl) (by kernel_rfl) rfl (yo_pure hT rfl) ?_)
            refine rw_done (by kernel_rfl) ?_
            (repeat (first | (refine lw_add rfl rfl ?_ ?_ ?_; iterate 2 omega) | refine lw_pure hT rfl ?_ | refine lw_nil ?_ | refine cw_region ?_ | refine qw_then ?_ | refine cw_skip ?_ | refine qw_block ?_ | (refine cw_cond_f rfl ?_ ?_; focus with_reducible (first | rfl | exact Bool.not_false | exact Bool.not_true))))
            exact qw_round (j + 1) (by repeat (first | exact trivial | refine ⟨rfl, ?_⟩)) ⟨hx9.trans hx10, hlt, step (by rw [h8]; rfl)⟩ (by omega)
        · have : j = (whichN a).length := by have := of_decide_eq_false h; omega
          subst this
          have q4 : (whichN a).any (fun k => decide (a.kind ≠ 3) && decide (a.day < untilD x.bill (papAt x k))) = false := by
            rw [List.any_eq_false]
            intro k hkm
            obtain ⟨j', hj', rfl⟩ := List.getElem_of_mem hkm
            rw [hno3 j' hj' hj']; decide
          (repeat (first | refine lw_pure hT rfl ?_ | refine lw_nil ?_ | refine cw_seq ?_ | refine cw_region ?_ | refine qw_then ?_ | refine cw_ret ?_ | refine cw_exit ?_ | refine qw_block_exit ?_ | refine qw_then_exit ?_))
          refine qw_ret rfl ⟨?_, hx04.trans hx9⟩
          have : wrongE x a = 0 := by unfold wrongE; rw [hb, hba, q2, q3, q4]; rfl
          rw [this]; rfl
end Go.Proofs.YtnglkhnfmbnfeaaGreat
namespace Go.Proofs.YtnglkhnfmbnfeaaGreat
open Go Go.SK
theorem _root_.Go.SK.Sl.lt {A : Nat → Prop} {w : World} {v : Value} {size : Nat} {rows : List (List Value)} (h : Sl A w v size rows) (hs : 0 < size) : Sl (fun b => A b ∧ b < w.heap.size) w v size rows := by
  obtain ⟨a, cap, hv, hz, hr⟩ := h.is
  refine ⟨⟨a, cap, hv, hz, fun hne => ?_⟩, h.small⟩
  obtain ⟨b, o, ha, hA, hrd⟩ := hr hne
  refine ⟨b, o, ha, ⟨hA, ?_⟩, hrd⟩
  have h0 : 0 < rows.length := by cases rows with
    | nil => exact absurd rfl hne
    | cons _ _ => simp
  obtain ⟨hl, hrd0⟩ := hrd 0 rows[0] (List.getElem?_eq_getElem h0)
  have h1 : 0 < rows[0].length := by omega
  exact World.block_lt_of_cell? w _ (hrd0 0 rows[0][0] (List.getElem?_eq_getElem h1))
theorem FEnt.lt {A : Nat → Prop} {w : World} {x : EntD} {g : FG} (h : FEnt A w x g) : FEnt (fun b => A b ∧ b < w.heap.size) w x g :=
  ⟨h.boxes.lt (by decide), h.parents.lt (by decide), h.three, h.three', h.papers.lt (by decide), fun i q vc h1 h2 => (h.chains i q vc h1 h2).lt (by decide), h.bcap⟩
theorem FRep.lt {A : Nat → Prop} {w : World} {vL : Value} {l : List EntD} {gs : List FG} (h : FRep A w vL l gs) : FRep (fun b => A b ∧ b < w.heap.size) w vL l gs :=
  ⟨h.len, h.cap, h.sl.lt (by decide), fun i x g h1 h2 => (h.ents i x g h1 h2).lt⟩
def rowsOf (ps : List PapD) (vcs : List Value) : List (List Value) := (ps.zip vcs).map papRow
theorem set_row {ps : List PapD} {vcs tail : List Value} (h1 : ps.length = 3) (h2 : vcs.length = 3) {k : Nat} (hk : k < 3) (q : PapD) (vc : Value) :
    setMany ((rowsOf ps vcs).flatten ++ tail) (k * 3) [.int .i64 q.state, .string q.holder, vc] = (rowsOf (ps.set k q) (vcs.set k vc)).flatten ++ tail := by
  obtain ⟨a, b, c, rfl⟩ := three_cases h1
  obtain ⟨u, v, y, rfl⟩ := three_cases h2
  match k, hk with
  | 0, _ => rfl
  | 1, _ => rfl
  | 2, _ => rfl
theorem set_st {ps : List PapD} {vcs tail : List Value} (h1 : ps.length = 3) (h2 : vcs.length = 3) {k : Nat} (hk : k < 3) (s : Int) :
    ((rowsOf ps vcs).flatten ++ tail).set (k * 3) (.int .i64 s) = (rowsOf (onIx [k] (stateP s) ps) vcs).flatten ++ tail := by
  obtain ⟨a, b, c, rfl⟩ := three_cases h1
  obtain ⟨u, v, y, rfl⟩ := three_cases h2
  match k, hk with
  | 0, _ => rfl
  | 1, _ => rfl
  | 2, _ => rfl
theorem row_take {ps : List PapD} {vcs tail : List Value} (h1 : ps.length = 3) (h2 : vcs.length = 3) {k : Nat} (hk : k < 3) {q : PapD} {vc : Value} (hq : ps[k]? = some q) (hv : vcs[k]? = some vc) :
    (((rowsOf ps vcs).flatten ++ tail).drop (k * 3)).take 3 = [.int .i64 q.state, .string q.holder, vc] := by
  obtain ⟨a, b, c, rfl⟩ := three_cases h1
  obtain ⟨u, v, y, rfl⟩ := three_cases h2
  match k, hk with
  | 0, _ => simp at hq hv; subst hq hv; rfl
  | 1, _ => simp at hq hv; subst hq hv; rfl
  | 2, _ => simp at hq hv; subst hq hv; rfl
theorem rows_len {ps : List PapD} {vcs tail : List Value} (h1 : ps.length = 3) (h2 : vcs.length = 3) : ((rowsOf ps vcs).flatten ++ tail).length = 9 + tail.length := by
  obtain ⟨a, b, c, rfl⟩ := three_cases h1
  obtain ⟨u, v, y, rfl⟩ := three_cases h2
  simp [rowsOf, papRow]; omega
theorem onIx_set {ps : List PapD} (h1 : ps.length = 3) {k : Nat} (hk : k < 3) {q : PapD} (hq : ps[k]? = some q) (f : PapD → PapD) : onIx [k] f ps = ps.set k (f q) := by
  obtain ⟨a, b, c, rfl⟩ := three_cases h1
  match k, hk with
  | 0, _ => simp at hq; subst hq; rfl
  | 1, _ => simp at hq; subst hq; rfl
  | 2, _ => simp at hq; subst hq; rfl
def fD (a : ActD) : PapD → PapD := if a.kind = 1 then endorseP a.by_ a.to_ a.day else if a.kind = 3 then stateP 3 else if a.kind = 4 then stateP 0 else id
structure PapsAt (A : Nat → Prop) (w : World) (bq : Nat) (ps : List PapD) (vcs tail : List Value) : Prop where
  three : ps.length = 3
  three' : vcs.length = 3
  blk : Blk w bq ((rowsOf ps vcs).flatten ++ tail) 126
  chains : ∀ (i : Nat) (q : PapD) (vc : Value), ps[i]? = some q → vcs[i]? = some vc → SlE A w vc q.chain
theorem PapsAt.sl {A : Nat → Prop} {w : World} {bq cap : Nat} {ps : List PapD} {vcs tail : List Value} (h : PapsAt A w bq ps vcs tail) {B : Nat → Prop} (hB : B bq) : Sl B w (.slice (some ⟨bq, 0, none⟩) 3 cap) 3 ((ps.zip vcs).map papRow) := by
  have h1 : ((ps.zip vcs).map papRow).length = 3 := by simp [h.three, h.three']
  have := Sl.of_rd (A := B) (w := w) (b := bq) (o := 0) (cap := cap) (size := 3) (rows := (ps.zip vcs).map papRow) hB (by intro r hr; obtain ⟨x, _, rfl⟩ := List.mem_map.1 hr; rfl) (by
    have := h.blk.rd 0 9
    rw [List.drop_zero] at this
    have e : ((rowsOf ps vcs).flatten ++ tail).take 9 = ((ps.zip vcs).map papRow).flatten := by
      obtain ⟨a, b, c, rfl⟩ := three_cases h.three
      obtain ⟨u, v, y, rfl⟩ := three_cases h.three'
      rfl
    rwa [e] at this) (by rw [h1]; simp [maxLen])
  rwa [h1] at this
theorem _root_.Go.SK.Sl.cutTo {A : Nat → Prop} {w : World} {b o n c size i : Nat} {rows : List (List Value)} (h : Sl A w (.slice (some ⟨b, o, none⟩) n c) size rows) (hi : i ≤ rows.length) :
    Sl A w (.slice (if c = 0 then some ⟨b, o, none⟩ else (some (⟨b, o, none⟩ : Addr)).map (·.add (0 * size))) (i - 0) (c - 0)) size (rows.take i) := by
  have e : (if c = 0 then some (⟨b, o, none⟩ : Addr) else (some (⟨b, o, none⟩ : Addr)).map (·.add (0 * size))) = some ⟨b, o, none⟩ := by split <;> simp [addr_add]
  rw [e]
  obtain ⟨a, cap, hv, hz, hr⟩ := h.is
  have hl : (rows.take i).length = i - 0 := by simp; omega
  refine ⟨⟨some ⟨b, o, none⟩, c - 0, by rw [hl], (fun h => by cases h), fun hne => ?_⟩, by rw [hl]; have := h.small; omega⟩
  have hne' : rows ≠ [] := by rintro rfl; simp at hne
  obtain ⟨b', o', ha, hA, hrd⟩ := hr hne'
  simp only [Value.slice.injEq] at hv
  have e2 := hv.1.trans ha
  simp only [Option.some.injEq, Addr.mk.injEq, and_true] at e2
  obtain ⟨rfl, rfl⟩ := e2
  refine ⟨b, o, rfl, hA, fun j row hj => hrd j row ?_⟩
  rw [List.getElem?_take] at hj
  split at hj
  · exact hj
  · cases hj
theorem _root_.Go.SK.Sl.cutFrom {A : Nat → Prop} {w : World} {b o n c size i m : Nat} {rows : List (List Value)} (h : Sl A w (.slice (some ⟨b, o, none⟩) n c) size rows) (hi : i ≤ rows.length) (hm : m = rows.length - i) (hc : n ≤ c) :
    Sl A w (.slice (if c = i then some ⟨b, o, none⟩ else (some (⟨b, o, none⟩ : Addr)).map (·.add (i * size))) m (c - i)) size (rows.drop i) := by
  obtain ⟨a, cap, hv, hz, hr⟩ := h.is
  simp only [Value.slice.injEq] at hv
  have hl : (rows.drop i).length = m := by simp; omega
  refine ⟨⟨_, c - i, by rw [hl], (fun h => by split at h <;> cases h), fun hne => ?_⟩, by rw [hl]; have := h.small; omega⟩
  have hlt : i < rows.length := by
    rcases Nat.lt_or_ge i rows.length with h | h
    · exact h
    · exact absurd (List.drop_eq_nil_of_le h) hne
  have hne' : rows ≠ [] := by rintro rfl; simp at hlt
  obtain ⟨b', o', ha, hA, hrd⟩ := hr hne'
  have e2 := hv.1.trans ha
  simp only [Option.some.injEq, Addr.mk.injEq, and_true] at e2
  obtain ⟨rfl, rfl⟩ := e2
  rw [if_neg (by omega)]
  refine ⟨b, o + i * size, by simp [addr_add], hA, fun j row hj => ?_⟩
  rw [List.getElem?_drop] at hj
  obtain ⟨h1, h2⟩ := hrd (i + j) row hj
  refine ⟨h1, ?_⟩
  rwa [Nat.add_mul, ← Nat.add_assoc] at h2
theorem zip_set {α β : Type} : ∀ (l : List α) (r : List β) (i : Nat) (x : α) (y : β), (l.set i x).zip (r.set i y) = (l.zip r).set i (x, y)
  | [], _, _, _, _ => by simp
  | _ :: _, [], i, _, _ => by cases i <;> simp
  | a :: l, b :: r, 0, _, _ => by simp
  | a :: l, b :: r, i + 1, x, y => by simp [zip_set l r i x y]
theorem FRep.of_own {A : Nat → Prop} {w : World} {vL : Value} {l : List EntD} {gs : List FG} (hl : l.length = gs.length) {base te : Nat} (ho : w.ownsRow base te 11 vL l.length ((l.zip gs).map entF).flatten) (hA : ∀ b, vL.ownBlock = some b → A b)
    (he : ∀ (i : Nat) (x : EntD) (g : FG), l[i]? = some x → gs[i]? = some g → FEnt A w x g) : FRep A w vL l gs := by
  refine ⟨hl, own_cap ho, own_sl (base := base) (e := te) (rows := (l.zip gs).map entF) ?_ (fun r hr => FRep.len11 r hr) hA, he⟩
  have : ((l.zip gs).map entF).length = l.length := by simp [hl]
  rw [this]; exact ho
theorem FRep.changed {A : Nat → Prop} {w : World} {vL : Value} {l : List EntD} {gs : List FG} (hl : l.length = gs.length) {i : Nat} (hi : i < l.length) {x : EntD} {g : FG} {base te : Nat}
    (ho : w.ownsRow base te 11 vL (i + 1 + (l.length - (i + 1))) (((((l.zip gs).map entF).take i).flatten ++ entF (x, g)) ++ (((l.zip gs).map entF).drop (i + 1)).flatten)) (hA : ∀ b, vL.ownBlock = some b → A b)
    (hold : ∀ (j : Nat) (y : EntD) (u : FG), j ≠ i → l[j]? = some y → gs[j]? = some u → FEnt A w y u) (hx : FEnt A w x g) : FRep A w vL (l.set i x) (gs.set i g) := by
  refine FRep.of_own (by simp [hl]) (base := base) (te := te) ?_ hA ?_
  · rw [zip_set, List.map_set, List.length_set]
    have hz : i < ((l.zip gs).map entF).length := by simp [← hl]; exact hi
    rw [List.set_eq_take_append_cons_drop, if_pos hz]
    have e : i + 1 + (l.length - (i + 1)) = l.length := by omega
    rw [e] at ho
    simpa using ho
  · intro j y u hy hu
    by_cases e : i = j
    · subst e
      rw [List.getElem?_set_self hi] at hy
      rw [List.getElem?_set_self (by rw [← hl]; exact hi)] at hu
      cases hy; cases hu; exact hx
    · rw [List.getElem?_set_ne e] at hy hu
      exact hold j y u (fun h => e h.symm) hy hu
def midP (a : ActD) (ps : List PapD) : List PapD := if a.kind = 2 ∨ a.kind = 5 then ps.map (stateP 2) else ps
def midS (a : ActD) (st : Int) : Int := if a.kind = 2 ∨ a.kind = 5 then 4 else st
def finP (a : ActD) (ps : List PapD) : List PapD := if a.kind = 2 then onIx (whichN a) (stateP 1) ps else ps
def finS (a : ActD) (st : Int) : Int := if a.kind = 2 then 1 else st
theorem onIx_id (l : List Nat) (ps : List PapD) : onIx l id ps = ps := by
  apply List.ext_getElem?
  intro i
  cases h : ps[i]? with
  | none =>
    rw [List.getElem?_eq_none_iff] at h ⊢
    rw [onIx_len]; exact h
  | some q => rw [onIx_get h]; simp
theorem after_eq {x : EntD} {a : ActD} (hk : 1 ≤ a.kind ∧ a.kind ≤ 5) (eI : whichN a = ixs a.ask.index) (eN : whichN a ≠ []) :
    x.after a = { x with state := finS a (midS a x.state), ps := finP a (midP a (onIx (whichN a) (fD a) x.ps)) } := by
  have hks : a.kind = 1 ∨ a.kind = 2 ∨ a.kind = 3 ∨ a.kind = 4 ∨ a.kind = 5 := by omega
  have one : ixs (oneI a.index) ≠ [] → ixs (oneI a.index) = ixs a.index := fun h => by obtain ⟨k, _, h1, h2⟩ := ixs_one h; rw [h1, h2]
  rw [eI] at eN ⊢
  rcases hks with h | h | h | h | h
  · simp [EntD.after, finS, midS, finP, midP, fD, h, ActD.ask]
  · have e : whichN a = ixs a.index := by rw [eI]; simp only [ActD.ask, h] at eN ⊢; exact one eN
    simp [EntD.after, finS, midS, finP, midP, fD, h, onIx_id, e]
  · simp only [ActD.ask, h] at eN ⊢
    simp [EntD.after, finS, midS, finP, midP, fD, h, one (by simpa using eN)]
  · simp only [ActD.ask, h] at eN ⊢
    simp [EntD.after, finS, midS, finP, midP, fD, h, one (by simpa using eN)]
  · simp [EntD.after, finS, midS, finP, midP, fD, h, onIx_id]
theorem upd_set' {r : RegD} {n : ByteArray} {i : Nat} {x : EntD} (hl : r.l[i]? = some x) (hn : n = x.bill.number) (hN : r.Nd) (f : EntD → EntD) : (r.upd n f).l = r.l.set i (f x) := by
  apply List.ext_getElem?
  intro j
  simp only [RegD.upd, List.getElem?_map, List.getElem?_set]
  by_cases e : i = j
  · subst e
    have hlt := (List.getElem?_eq_some_iff.1 hl).1
    have e : r.l[i] = x := by rw [List.getElem?_eq_getElem hlt] at hl; exact Option.some.inj hl
    simp [hlt, hn, e]
  · rw [if_neg e]
    cases hj : r.l[j]? with
    | none => rfl
    | some y =>
      have : n ≠ y.bill.number := fun h => e (hN i j x y hl hj (hn ▸ h))
      simp [this]
end Go.Proofs.YtnglkhnfmbnfeaaGreat
namespace Go.Proofs.YtnglkhnfmbnfeaaGreat
open Go Go.SK
def isDone (q : PapD) : Bool := decide (q.state = 1)
def StOk (e : EntD) : Prop :=
  (e.state = 0 ∧ ∀ q ∈ e.ps, q.state = 0 ∨ q.state = 3) ∨ (e.state = 1 ∧ (e.ps.filter isDone).length = 1 ∧ ∀ q ∈ e.ps, q.state = 1 ∨ q.state = 2) ∨ (e.state = 4 ∧ ∀ q ∈ e.ps, q.state = 2)
structure EntG (k : Nat) (c : ByteArray) (e : EntD) : Prop where
  three : e.ps.length = 3
  pap : ∀ q ∈ e.ps, PapInv q
  chain : ∀ q ∈ e.ps, q.chain.length ≤ k
  may : mayB c e.bill = true
  ok : e.bill.Ok
  st : StOk e
structure Good (k : Nat) (r : RegD) : Prop where
  nd : r.Nd
  len : r.l.length ≤ k
  ent : ∀ e ∈ r.l, EntG k r.carrier e
  box : ∀ (i j : Nat) (x y : EntD) (b : ByteArray), r.l[i]? = some x → r.l[j]? = some y → x.state = 0 → y.state = 0 → b ∈ x.bill.boxes → b ∈ y.bill.boxes → i = j
theorem may_len {c : ByteArray} {b : BillD} (h : mayB c b = true) : b.boxes.length ≤ 64 ∧ b.parents.length ≤ 64 ∧ onceB b.boxes = true ∧ nameB b.number = true := by
  simp only [mayB, Bool.and_eq_true, decide_eq_true_eq] at h
  obtain ⟨⟨⟨⟨h1, _⟩, _⟩, _⟩, _, ⟨⟨_, h2⟩, _, h3⟩, h4, _⟩ := h
  exact ⟨h3, h4, h2, h1⟩
theorem EntG.mono {k k' : Nat} {c : ByteArray} {e : EntD} (h : EntG k c e) (hk : k ≤ k') : EntG k' c e := ⟨h.three, h.pap, fun q hq => Nat.le_trans (h.chain q hq) hk, h.may, h.ok, h.st⟩
theorem Good.mono {k k' : Nat} {r : RegD} (h : Good k r) (hk : k ≤ k') : Good k' r := ⟨h.nd, Nat.le_trans h.len hk, fun e he => (h.ent e he).mono hk, h.box⟩
theorem Good.small {k : Nat} {r : RegD} (h : Good k r) (hk : k ≤ 1000000) : r.Small := fun e he => by
  have hE := h.ent e he
  have := may_len hE.may
  exact ⟨fun q hq => Nat.le_trans (hE.chain q hq) hk, by omega, by omega⟩
theorem Good.inv {k : Nat} {r : RegD} (h : Good k r) : ∀ e ∈ r.l, ∀ q ∈ e.ps, PapInv q := fun e he => (h.ent e he).pap
theorem good_new (c : ByteArray) : Good 0 ⟨c, []⟩ := ⟨fun i j x y h => by simp at h, Nat.le_refl _, fun e he => by simp at he, fun i j x y b h => by simp at h⟩
theorem onIx_mem {l : List Nat} {f : PapD → PapD} {ps : List PapD} {q' : PapD} (h : q' ∈ onIx l f ps) : ∃ (i : Nat) (q : PapD), ps[i]? = some q ∧ q' = if l.contains i then f q else q := by
  obtain ⟨i, hi⟩ := List.getElem?_of_mem h
  have hlt : i < ps.length := by have := (List.getElem?_eq_some_iff.1 hi).1; rwa [onIx_len] at this
  have hq := List.getElem?_eq_getElem hlt
  refine ⟨i, ps[i], hq, ?_⟩
  rw [onIx_get hq] at hi
  exact (Option.some.inj hi).symm
theorem PapInv.state {q : PapD} (h : PapInv q) (s : Int) : PapInv (stateP s q) := ⟨h.name, h.size, h.ok, h.go, h.fname, h.fsize⟩
theorem papAt_of {x : EntD} {i : Nat} {q : PapD} (h : x.ps[i]? = some q) : papAt x i = q := by simp [papAt, h]
theorem fil_one {ps : List PapD} (h : ps.length = 3) {k : Nat} (hk : k < 3) : ((onIx [k] (stateP 1) (ps.map (stateP 2))).filter isDone).length = 1 := by
  obtain ⟨a, b, c, rfl⟩ := three_cases h
  match k, hk with
  | 0, _ => rfl
  | 1, _ => rfl
  | 2, _ => rfl
theorem after_bill (e : EntD) (a : ActD) : (e.after a).bill = e.bill := by
  unfold EntD.after; repeat' split
  all_goals rfl
theorem after_good {k : Nat} {c : ByteArray} {e : EntD} {a : ActD} (h : EntG k c e) (hk : 1 ≤ a.kind ∧ a.kind ≤ 5) (hask : askE e a.ask = 0) (hto : a.to_.size ≤ maxLen) : EntG (k + 1) c (e.after a) := by
  obtain ⟨h1, h2, h3, h4, h5⟩ := ask_ok hask
  have hst : ∀ q ∈ e.ps, q.state = 0 ∨ q.state = 3 := by
    rcases h.st with h' | h' | h'
    · exact h'.2
    · rw [h2] at h'; cases h'.1
    · rw [h2] at h'; cases h'.1
  have one : ixs (oneI a.index) ≠ [] → ∃ k : Nat, k < 3 ∧ ixs a.index = [k] := fun h => by obtain ⟨k, h3, _, h2⟩ := ixs_one h; exact ⟨k, h3, h2⟩
  have hks : a.kind = 1 ∨ a.kind = 2 ∨ a.kind = 3 ∨ a.kind = 4 ∨ a.kind = 5 := by omega
  rcases hks with hk | hk | hk | hk | hk
  · have ea : e.after a = { e with ps := onIx (ixs a.index) (endorseP a.by_ a.to_ a.day) e.ps } := by simp [EntD.after, hk]
    have eask : a.ask = ⟨a.bill, a.by_, a.index, 0, true, a.day, a.to_, true⟩ := by simp [ActD.ask, hk]
    rw [eask] at h1 h3 h4 h5
    obtain ⟨h6, h7⟩ := h5 rfl
    obtain ⟨h8, h9⟩ := h4 rfl
    rw [ea]
    have key : ∀ q' ∈ onIx (ixs a.index) (endorseP a.by_ a.to_ a.day) e.ps, PapInv q' ∧ q'.chain.length ≤ k + 1 ∧ (q'.state = 0 ∨ q'.state = 3) := by
      intro q' hq'
      obtain ⟨i, q, hi, rfl⟩ := onIx_mem hq'
      have hq := List.mem_of_getElem? hi
      split
      · next hc =>
        have hc : i ∈ ixs a.index := by simpa using hc
        have ep := papAt_of hi
        have h3' := h3 i hc
        have h9' := h9 i hc
        rw [ep] at h3' h9'
        refine ⟨(endorse_inv (h.pap q hq) h3'.2.symm h6 h7 h8 h9' hto).1, ?_, hst q hq⟩
        have := h.chain q hq
        simp [endorseP]; exact this
      · exact ⟨h.pap q hq, Nat.le_succ_of_le (h.chain q hq), hst q hq⟩
    exact ⟨by rw [← h.three]; exact onIx_len _ _ _, fun q hq => (key q hq).1, fun q hq => (key q hq).2.1, h.may, h.ok, .inl ⟨h2, fun q hq => (key q hq).2.2⟩⟩
  · have eask : a.ask.index = oneI a.index := by simp [ActD.ask, hk]
    rw [eask] at h1
    obtain ⟨j, hj, ej⟩ := one h1
    have ea : e.after a = { e with state := 1, ps := onIx [j] (stateP 1) (e.ps.map (stateP 2)) } := by simp [EntD.after, hk, ej]
    rw [ea]
    have key : ∀ q' ∈ onIx [j] (stateP 1) (e.ps.map (stateP 2)), PapInv q' ∧ q'.chain.length ≤ k ∧ (q'.state = 1 ∨ q'.state = 2) := by
      intro q' hq'
      obtain ⟨i, q, hi, rfl⟩ := onIx_mem hq'
      rw [List.getElem?_map] at hi
      obtain ⟨q0, hq0, rfl⟩ := Option.map_eq_some_iff.1 hi
      have hq := List.mem_of_getElem? hq0
      split
      · exact ⟨((h.pap q0 hq).state 2).state 1, h.chain q0 hq, .inl rfl⟩
      · exact ⟨(h.pap q0 hq).state 2, h.chain q0 hq, .inr rfl⟩
    exact ⟨by rw [← h.three]; rw [onIx_len, List.length_map], fun q hq => (key q hq).1, fun q hq => Nat.le_succ_of_le (key q hq).2.1, h.may, h.ok, .inr (.inl ⟨rfl, fil_one h.three hj, fun q hq => (key q hq).2.2⟩)⟩
  · have ea : e.after a = { e with ps := onIx (ixs a.index) (stateP 3) e.ps } := by simp [EntD.after, hk]
    rw [ea]
    have key : ∀ q' ∈ onIx (ixs a.index) (stateP 3) e.ps, PapInv q' ∧ q'.chain.length ≤ k ∧ (q'.state = 0 ∨ q'.state = 3) := by
      intro q' hq'
      obtain ⟨i, q, hi, rfl⟩ := onIx_mem hq'
      have hq := List.mem_of_getElem? hi
      split
      · exact ⟨(h.pap q hq).state 3, h.chain q hq, .inr rfl⟩
      · exact ⟨h.pap q hq, h.chain q hq, hst q hq⟩
    exact ⟨by rw [← h.three]; exact onIx_len _ _ _, fun q hq => (key q hq).1, fun q hq => Nat.le_succ_of_le (key q hq).2.1, h.may, h.ok, .inl ⟨h2, fun q hq => (key q hq).2.2⟩⟩
  · have ea : e.after a = { e with ps := onIx (ixs a.index) (stateP 0) e.ps } := by simp [EntD.after, hk]
    rw [ea]
    have key : ∀ q' ∈ onIx (ixs a.index) (stateP 0) e.ps, PapInv q' ∧ q'.chain.length ≤ k ∧ (q'.state = 0 ∨ q'.state = 3) := by
      intro q' hq'
      obtain ⟨i, q, hi, rfl⟩ := onIx_mem hq'
      have hq := List.mem_of_getElem? hi
      split
      · exact ⟨(h.pap q hq).state 0, h.chain q hq, .inl rfl⟩
      · exact ⟨h.pap q hq, h.chain q hq, hst q hq⟩
    exact ⟨by rw [← h.three]; exact onIx_len _ _ _, fun q hq => (key q hq).1, fun q hq => Nat.le_succ_of_le (key q hq).2.1, h.may, h.ok, .inl ⟨h2, fun q hq => (key q hq).2.2⟩⟩
  · have ea : e.after a = { e with state := 4, ps := e.ps.map (stateP 2) } := by simp [EntD.after, hk]
    rw [ea]
    refine ⟨by rw [← h.three]; exact List.length_map _, fun q hq => ?_, fun q hq => ?_, h.may, h.ok, .inr (.inr ⟨rfl, fun q hq => ?_⟩)⟩ <;> obtain ⟨q0, hq0, rfl⟩ := List.mem_map.1 hq
    · exact (h.pap q0 hq0).state 2
    · exact Nat.le_succ_of_le (h.chain q0 hq0)
    · rfl
theorem at_some {r : RegD} {n : ByteArray} {x : EntD} (h : r.at? n = some x) : n = x.bill.number ∧ ∃ i : Nat, r.l[i]? = some x := by
  have h1 := List.find?_some h
  exact ⟨of_decide_eq_true h1, List.getElem?_of_mem (List.mem_of_find?_eq_some h)⟩
theorem ask_bill {a : ActD} (hk : 1 ≤ a.kind ∧ a.kind ≤ 5) : a.ask.bill = a.bill := by
  have hks : a.kind = 1 ∨ a.kind = 2 ∨ a.kind = 3 ∨ a.kind = 4 ∨ a.kind = 5 := by omega
  rcases hks with h | h | h | h | h <;> simp [ActD.ask, h]
theorem askC_ok {r : RegD} {a : ActD} (hk : 1 ≤ a.kind ∧ a.kind ≤ 5) (h : askC r a.ask = 0) : ∃ (x : EntD) (i : Nat), r.at? a.bill = some x ∧ r.l[i]? = some x ∧ a.bill = x.bill.number ∧ askE x a.ask = 0 := by
  unfold askC at h
  rw [ask_bill hk] at h
  cases hat : r.at? a.bill with
  | none => rw [hat] at h; cases h
  | some x =>
    rw [hat] at h
    obtain ⟨h1, i, h2⟩ := at_some hat
    exact ⟨x, i, rfl, h2, h1, h⟩
theorem good_issue {k : Nat} {r : RegD} {b : BillD} {holder : ByteArray} (h : Good k r) (hb : b.Ok) (hh : holder.size ≤ maxLen) : Good (k + 1) (issueD r b holder) := by
  unfold issueD
  by_cases hc : issueC r b holder = 0
  · rw [if_pos hc]
    unfold issueC at hc
    split at hc
    · cases hc
    next h1 =>
    split at hc
    · cases hc
    next h2 =>
    split at hc
    · cases hc
    next h3 =>
    simp only [Bool.or_eq_true, Bool.not_eq_true', not_or, Bool.not_eq_false] at h1
    obtain ⟨hm, hn⟩ := h1
    have hnone : r.at? b.number = none := by cases hat : r.at? b.number with
      | none => rfl
      | some x => rw [hat] at h2; simp at h2
    have hnum := at_none hnone
    have hbx : ∀ x ∈ b.boxes, ∀ e ∈ r.l, e.state = 0 → x ∉ e.bill.boxes := by
      intro x hx e he hs hmem
      refine h3 (List.any_eq_true.2 ⟨x, hx, ?_⟩)
      refine List.any_eq_true.2 ⟨e, he, ?_⟩
      simp only [EntD.has, hs, decide_true, Bool.true_and]
      exact List.any_eq_true.2 ⟨x, hmem, by simp⟩
    have hP : PapInv ⟨0, holder, []⟩ := ⟨hn, hh, fun x hx => by simp at hx, rfl, hn, hh⟩
    have get : ∀ (i : Nat) (x : EntD), (r.l ++ [newEnt b holder])[i]? = some x → (r.l[i]? = some x ∧ i < r.l.length) ∨ (i = r.l.length ∧ x = newEnt b holder) := by
      intro i x hx
      rw [List.getElem?_append] at hx
      split at hx
      · next hlt => exact .inl ⟨hx, hlt⟩
      · next hlt =>
        right
        have : i - r.l.length = 0 := by
          have := (List.getElem?_eq_some_iff.1 hx).1
          simp at this; omega
        rw [this] at hx
        simp at hx
        exact ⟨by omega, hx.symm⟩
    refine ⟨?_, by simp; exact h.len, ?_, ?_⟩
    · intro i j x y hx hy he
      rcases get i x hx with ⟨hx, hi⟩ | ⟨hi, rfl⟩ <;> rcases get j y hy with ⟨hy, hj⟩ | ⟨hj, rfl⟩
      · exact h.nd i j x y hx hy he
      · exact absurd he.symm (hnum x (List.mem_of_getElem? hx))
      · exact absurd he (hnum y (List.mem_of_getElem? hy))
      · omega
    · intro e he
      rcases List.mem_append.1 he with he | he
      · exact (h.ent e he).mono (Nat.le_succ _)
      · simp at he
        subst he
        have h3 : ∀ q ∈ (newEnt b holder).ps, q = ⟨0, holder, []⟩ := by intro q hq; simpa [newEnt] using hq
        exact ⟨rfl, fun q hq => by rw [h3 q hq]; exact hP, fun q hq => by rw [h3 q hq]; simp, hm, hb, .inl ⟨rfl, fun q hq => by rw [h3 q hq]; exact .inl rfl⟩⟩
    · intro i j x y z hx hy hsx hsy hzx hzy
      rcases get i x hx with ⟨hx, hi⟩ | ⟨hi, rfl⟩ <;> rcases get j y hy with ⟨hy, hj⟩ | ⟨hj, rfl⟩
      · exact h.box i j x y z hx hy hsx hsy hzx hzy
      · exact absurd hzx (hbx z hzy x (List.mem_of_getElem? hx) hsx)
      · exact absurd hzy (hbx z hzx y (List.mem_of_getElem? hy) hsy)
      · omega
  · rw [if_neg hc]; exact h.mono (Nat.le_succ _)
theorem good_do {k : Nat} {r : RegD} {a : ActD} (h : Good k r) (hk : 0 ≤ a.kind ∧ a.kind ≤ 5) (hb : a.b.Ok) (hto : a.to_.size ≤ maxLen) : Good (k + 1) (doA r a) := by
  unfold doA
  by_cases h0 : a.kind = 0
  · rw [if_pos h0]; exact good_issue h hb hto
  · rw [if_neg h0]
    have hk1 : 1 ≤ a.kind ∧ a.kind ≤ 5 := by omega
    by_cases hc : askC r a.ask = 0
    · rw [if_pos hc]
      obtain ⟨x, i, hat, hx, hn, hask⟩ := askC_ok hk1 hc
      have e := upd_set' hx hn h.nd (·.after a)
      have hil := (List.getElem?_eq_some_iff.1 hx).1
      have hst : x.state = 0 := (ask_ok hask).2.1
      have ec : (r.upd a.bill (·.after a)).carrier = r.carrier := rfl
      have get : ∀ (j : Nat) (y : EntD), (r.upd a.bill (·.after a)).l[j]? = some y → ∃ y0, r.l[j]? = some y0 ∧ y.bill = y0.bill ∧ (y.state = 0 → y0.state = 0) := by
        intro j y hy
        rw [e, List.getElem?_set] at hy
        by_cases hij : i = j
        · subst hij
          simp only [if_true, hil] at hy
          cases hy
          exact ⟨x, hx, after_bill _ _, fun _ => hst⟩
        · rw [if_neg hij] at hy
          exact ⟨y, hy, rfl, fun h => h⟩
      refine ⟨?_, ?_, ?_, ?_⟩
      · intro j j' y y' hy hy' he
        obtain ⟨z, hz, ez, _⟩ := get j y hy
        obtain ⟨z', hz', ez', _⟩ := get j' y' hy'
        exact h.nd j j' z z' hz hz' (by rw [← ez, ← ez']; exact he)
      · rw [e, List.length_set]; exact Nat.le_succ_of_le h.len
      · intro y hy
        rw [ec]
        rw [e] at hy
        rcases List.mem_or_eq_of_mem_set hy with hy | rfl
        · exact (h.ent y hy).mono (Nat.le_succ _)
        · exact after_good (h.ent x (List.mem_of_getElem? hx)) hk1 hask hto
      · intro j j' y y' z hy hy' hs hs' hz hz'
        obtain ⟨u, hu, eu, su⟩ := get j y hy
        obtain ⟨u', hu', eu', su'⟩ := get j' y' hy'
        exact h.box j j' u u' z hu hu' (su hs) (su' hs') (by rw [← eu]; exact hz) (by rw [← eu']; exact hz')
    · rw [if_neg hc]; exact h.mono (Nat.le_succ _)
theorem do_carrier (r : RegD) (a : ActD) : (doA r a).carrier = r.carrier := by
  unfold doA issueD
  repeat' split
  all_goals rfl
end Go.Proofs.YtnglkhnfmbnfeaaGreat
namespace Go.Proofs.YtnglkhnfmbnfeaaGreat
open Go Go.SK
structure ActD.Ok (a : ActD) : Prop where
  bill : a.bill.size ≤ maxLen
  by_ : a.by_.size ≤ maxLen
  to_ : a.to_.size ≤ maxLen
  b : a.b.Ok
structure ActAt (A : Nat → Prop) (w : World) (a : ActD) (vb vp : Value) : Prop where
  boxes : SlS A w vb a.b.boxes
  parents : SlS A w vp a.b.parents
  cap : ∀ p n c, vb = .slice p n c → n ≤ c
  ok : a.Ok
theorem ActAt.ext {A F : Nat → Prop} {w w' : World} {a : ActD} {vb vp : Value} (h : ActAt A w a vb vp) (hx : Ext F w w') (hn : ∀ b, A b → ¬ F b) : ActAt A w' a vb vp := ⟨h.boxes.ext hx hn, h.parents.ext hx hn, h.cap, h.ok⟩
theorem ActAt.ex {A : Nat → Prop} {w w' : World} {a : ActD} {vb vp : Value} (h : ActAt A w a vb vp) (hx : Ex w w') : ActAt A w' a vb vp := h.ext hx fun _ _ f => f
structure ActsAt (A : Nat → Prop) (w : World) (v : Value) (l : List ActD) : Prop where
  is : ∃ p cap, v = .slice p l.length cap ∧ l.length ≤ maxLen ∧ (∀ i (hi : i < l.length), ∃ b o vb vp, p = some ⟨b, o, none⟩ ∧ A b ∧ Rd w b (o + i * 15) (encAct l[i] vb vp) ∧ ActAt A w l[i] vb vp)
theorem ActsAt.ext {A F : Nat → Prop} {w w' : World} {v : Value} {l : List ActD} (h : ActsAt A w v l) (hx : Ext F w w') (hn : ∀ b, A b → ¬ F b) : ActsAt A w' v l := by
  obtain ⟨p, cap, h1, h2, h3⟩ := h.is
  refine ⟨p, cap, h1, h2, fun i hi => ?_⟩
  obtain ⟨b, o, vb, vp, h4, h5, h6, h7⟩ := h3 i hi
  exact ⟨b, o, vb, vp, h4, h5, h6.ext hx (hn b h5), h7.ext hx hn⟩
theorem ActsAt.ex {A : Nat → Prop} {w w' : World} {v : Value} {l : List ActD} (h : ActsAt A w v l) (hx : Ex w w') : ActsAt A w' v l := h.ext hx fun _ _ f => f
theorem encAct_one {A : Nat → Prop} {w : World} {a : ActD} {vb vp : Value} (h : ActAt A w a vb vp) : ∀ u ∈ encAct a vb vp, u.oneCell' = true := by
  intro u hu
  simp [encAct, encB] at hu
  rcases hu with rfl | rfl | rfl | rfl | rfl | rfl | rfl | rfl | rfl | rfl | rfl | rfl | rfl | rfl | rfl <;> first | rfl | exact Sl.one h.boxes | exact Sl.one h.parents
def FewP (l : List ActD) : Prop := l.length ≤ 41 ∧ ∀ a ∈ l, a.b.boxes.length ≤ 70 ∧ a.b.parents.length ≤ 70
set_option maxHeartbeats 2000000 in
theorem r23_Few {A : Nat → Prop} {w : World} {v : Value} {l : List ActD} (hA : ActsAt A w v l) : Ret Tryz.prog 11 [v] w fun u w' => (∃ b, u = .bool b ∧ (b = true → FewP l)) ∧ Ex w w' := by
  obtain ⟨p, cap, rfl, hm, hr⟩ := hA.is
  unfold maxLen at hm
  refine ret_of Tryz.func11 Tryz.ntmps11 rfl rfl rfl ?_
  (repeat (first | refine lw_pure hT rfl ?_ | refine lw_nil ?_ | refine cw_seq ?_ | refine cw_region ?_ | refine qw_then ?_ | refine cw_block ?_))
  refine cw_loop (fun i : Nat => [(0, .slice p l.length cap), (3, .int .i64 (i : Nat))]) (fun i w' => Ex w w' ∧ i ≤ l.length ∧ i ≤ 41 ∧ ∀ j (hj : j < l.length), j < i → l[j].b.boxes.length ≤ 70 ∧ l[j].b.parents.length ≤ 70) (fun i => l.length - i) 0 (by repeat (first | exact trivial | refine ⟨rfl, ?_⟩)) ⟨Ext.refl _ _, Nat.zero_le _, Nat.zero_le _, fun j _ hj => by omega⟩ ?_
  rintro i w1 ⟨hx1, hi, hi41, hb⟩
  have no : ∀ w', Ex w1 w' → (∃ b, Value.bool false = .bool b ∧ (b = true → FewP l)) ∧ Ex w w' := fun w' h => ⟨⟨false, rfl, fun h => by cases h⟩, hx1.trans h⟩
  (repeat (first | refine lw_pure hT rfl ?_ | refine lw_nil ?_ | refine cw_seq ?_ | refine cw_region ?_ | refine qw_then ?_))
  refine cw_cond rfl (fun h => ?_) (fun h => ?_)
  · have hlt : i < l.length := by simp at h; omega
    obtain ⟨b, o, vb, vp, rfl, _, hrd, hat⟩ := hr i hlt
    generalize ha : l[i] = a at hrd hat
    have hat1 := hat.ex hx1
    obtain ⟨pb, cb, rfl, _, _⟩ := hat1.boxes.is
    obtain ⟨pp, cp, rfl, _, _⟩ := hat1.parents.is
    have hone := encAct_one hat1
    simp only [List.length_map] at *
    have s1 := hat.ok.bill
    have s2 := hat.ok.by_
    have s3 := hat.ok.to_
    have s4 := hat.ok.b.number
    have s5 := hat.ok.b.shipper
    have s6 := hat.ok.b.frm
    have s7 := hat.ok.b.to_
    unfold maxLen at s1 s2 s3 s4 s5 s6 s7
    (repeat (first | refine lw_pure hT rfl ?_ | refine cw_seq ?_ | refine cw_region ?_ | refine qw_then ?_ | refine cw_skip ?_ | refine cw_block ?_))
    refine lw_index hT rfl rfl rfl i rfl hlt ?_
    skip
    refine lw_load_agg hT rfl rfl rfl (hrd.ex hx1) ?_
    skip
    refine lw_alloc z73 ?_
    intro b4 w2 hbb4 hb4 hx2 hs2
    skip
    refine lw_store_agg hT rfl rfl rfl rfl hone hb4 (show (15 : Nat) ≤ 15 by decide) ?_
    intro w3 hb3 hx3 hs3
    replace hb3 : Blk w3 b4 (encAct a (.slice pb a.b.boxes.length cb) (.slice pp a.b.parents.length cp)) 73 := hb3
    have hx13 : Ex w1 w3 := hx2.up_new hx3 (fun i h => by omega)
    (repeat (first | refine lw_pure hT rfl ?_ | refine lw_nil ?_ | refine cw_seq ?_ | refine cw_region ?_ | refine qw_then ?_))
    refine lw_guard rfl (fun h1 => ?_) (fun h1 => ?_)
    · (repeat (first | refine lw_pure hT rfl ?_ | refine lw_nil ?_ | refine cw_seq ?_ | refine cw_region ?_ | refine qw_then ?_ | refine cw_ret ?_ | refine qw_then_ret ?_ | (refine lw_goff_t rfl ?_ ?_; focus with_reducible (first | rfl | exact Bool.not_false | exact Bool.not_true)) | refine qw_block_ret ?_ | (refine cw_cond_t rfl ?_ ?_; focus with_reducible (first | rfl | exact Bool.not_false | exact Bool.not_true))))
      exact qw_ret rfl (no _ hx13)
    have h1 : i ≤ 40 := by have := of_decide_eq_false h1; omega
    (repeat (first | refine lw_pure hT rfl ?_ | (refine lw_gon_f rfl ?_ ?_; focus with_reducible (first | rfl | exact Bool.not_false | exact Bool.not_true))))
    refine lw_load hT rfl rfl (v := .string a.bill) (hb3.cell 3) ?_
    (repeat (first | refine lw_pure hT rfl ?_ | (refine lw_gon_f rfl ?_ ?_; focus with_reducible (first | rfl | exact Bool.not_false | exact Bool.not_true))))
    refine lw_load hT rfl rfl (v := .string a.by_) (hb3.cell 4) ?_
    (repeat (first | refine lw_pure hT rfl ?_ | (refine lw_gon_f rfl ?_ ?_; focus with_reducible (first | rfl | exact Bool.not_false | exact Bool.not_true))))
    refine lw_load hT rfl rfl (v := .string a.to_) (hb3.cell 5) ?_
    (repeat (first | refine lw_pure hT rfl ?_ | (refine lw_gon_f rfl ?_ ?_; focus with_reducible (first | rfl | exact Bool.not_false | exact Bool.not_true))))
    refine lw_guard rfl (fun h2 => ?_) (fun h2 => ?_)
    · (repeat (first | refine lw_pure hT rfl ?_ | refine lw_nil ?_ | refine cw_seq ?_ | refine cw_region ?_ | refine qw_then ?_ | refine cw_ret ?_ | refine qw_then_ret ?_ | (refine lw_goff_t rfl ?_ ?_; focus with_reducible (first | rfl | exact Bool.not_false | exact Bool.not_true)) | refine qw_block_ret ?_ | (refine cw_cond_t rfl ?_ ?_; focus with_reducible (first | rfl | exact Bool.not_false | exact Bool.not_true))))
      exact qw_ret rfl (no _ hx13)
    (repeat (first | refine lw_pure hT rfl ?_ | (refine lw_gon_f rfl ?_ ?_; focus with_reducible (first | rfl | exact Bool.not_false | exact Bool.not_true))))
    refine lw_load hT rfl rfl (v := .slice pb a.b.boxes.length cb) (hb3.cell 11) ?_
    (repeat (first | refine lw_pure hT rfl ?_ | (refine lw_gon_f rfl ?_ ?_; focus with_reducible (first | rfl | exact Bool.not_false | exact Bool.not_true))))
    refine lw_guard rfl (fun h3 => ?_) (fun h3 => ?_)
    · (repeat (first | refine lw_pure hT rfl ?_ | refine lw_nil ?_ | refine cw_seq ?_ | refine cw_region ?_ | refine qw_then ?_ | refine cw_ret ?_ | refine qw_then_ret ?_ | (refine lw_goff_t rfl ?_ ?_; focus with_reducible (first | rfl | exact Bool.not_false | exact Bool.not_true)) | refine qw_block_ret ?_ | (refine cw_cond_t rfl ?_ ?_; focus with_reducible (first | rfl | exact Bool.not_false | exact Bool.not_true))))
      exact qw_ret rfl (no _ hx13)
    have h3 : a.b.boxes.length ≤ 70 := by have := of_decide_eq_false h3; omega
    (repeat (first | refine lw_pure hT rfl ?_ | (refine lw_gon_f rfl ?_ ?_; focus with_reducible (first | rfl | exact Bool.not_false | exact Bool.not_true))))
    refine lw_load hT rfl rfl (v := .slice pp a.b.parents.length cp) (hb3.cell 12) ?_
    (repeat (first | refine lw_pure hT rfl ?_ | (refine lw_gon_f rfl ?_ ?_; focus with_reducible (first | rfl | exact Bool.not_false | exact Bool.not_true))))
    refine lw_guard rfl (fun h4 => ?_) (fun h4 => ?_)
    · (repeat (first | refine lw_pure hT rfl ?_ | refine lw_nil ?_ | refine cw_seq ?_ | refine cw_region ?_ | refine qw_then ?_ | refine cw_ret ?_ | refine qw_then_ret ?_ | (refine lw_goff_t rfl ?_ ?_; focus with_reducible (first | rfl | exact Bool.not_false | exact Bool.not_true)) | refine qw_block_ret ?_ | (refine cw_cond_t rfl ?_ ?_; focus with_reducible (first | rfl | exact Bool.not_false | exact Bool.not_true))))
      exact qw_ret rfl (no _ hx13)
    have h4 : a.b.parents.length ≤ 70 := by have := of_decide_eq_false h4; omega
    (repeat (first | refine lw_pure hT rfl ?_ | (refine lw_gon_f rfl ?_ ?_; focus with_reducible (first | rfl | exact Bool.not_false | exact Bool.not_true))))
    refine lw_load hT rfl rfl (v := .string a.b.number) (hb3.cell 6) ?_
    (repeat (first | refine lw_pure hT rfl ?_ | (refine lw_gon_f rfl ?_ ?_; focus with_reducible (first | rfl | exact Bool.not_false | exact Bool.not_true))))
    refine lw_load hT rfl rfl (v := .string a.b.shipper) (hb3.cell 8) ?_
    (repeat (first | refine lw_pure hT rfl ?_ | (refine lw_gon_f rfl ?_ ?_; focus with_reducible (first | rfl | exact Bool.not_false | exact Bool.not_true))))
    refine lw_load hT rfl rfl (v := .string a.b.frm) (hb3.cell 9) ?_
    (repeat (first | refine lw_pure hT rfl ?_ | (refine lw_gon_f rfl ?_ ?_; focus with_reducible (first | rfl | exact Bool.not_false | exact Bool.not_true))))
    refine lw_load hT rfl rfl (v := .string a.b.to_) (hb3.cell 10) ?_
    (repeat (first | refine lw_pure hT rfl ?_ | refine lw_nil ?_ | refine qw_then ?_ | (refine lw_gon_f rfl ?_ ?_; focus with_reducible (first | rfl | exact Bool.not_false | exact Bool.not_true))))
    refine cw_cond rfl (fun h5 => ?_) (fun h5 => ?_)
    · (repeat (first | refine lw_pure hT rfl ?_ | refine lw_nil ?_ | refine cw_seq ?_ | refine cw_region ?_ | refine qw_then ?_ | refine cw_ret ?_ | refine qw_then_ret ?_ | refine qw_block_ret ?_))
      exact qw_ret rfl (no _ hx13)
    (repeat (first | (refine lw_add rfl rfl ?_ ?_ ?_; iterate 2 omega) | refine lw_pure hT rfl ?_ | refine lw_nil ?_ | refine cw_region ?_ | refine qw_then ?_ | refine cw_skip ?_ | refine qw_block ?_))
    refine qw_round (i + 1) (by repeat (first | exact trivial | refine ⟨rfl, ?_⟩)) ⟨hx1.trans hx13, hlt, by omega, fun j hj hji => ?_⟩ (by omega)
    by_cases e : j = i
    · subst e; rw [ha]; exact ⟨h3, h4⟩
    · exact hb j hj (by omega)
  · have : i = l.length := by simp at h; omega
    subst this
    (repeat (first | refine lw_pure hT rfl ?_ | refine lw_nil ?_ | refine cw_seq ?_ | refine cw_region ?_ | refine qw_then ?_ | refine cw_ret ?_ | refine cw_exit ?_ | refine qw_block_exit ?_ | refine qw_then_exit ?_))
    refine qw_ret rfl ⟨⟨true, rfl, fun _ => ⟨hi41, fun a ha => ?_⟩⟩, hx1⟩
    obtain ⟨j, hj, rfl⟩ := List.getElem_of_mem ha
    exact hb j hj hj
theorem r_Same {A B : Nat → Prop} {va vb : Value} {la lb : List ByteArray} (w : World) (hA : SlS A w va la) (hB : SlS B w vb lb) : Ret Tryz.prog 18 [va, vb] w fun u w' => u = .bool (decide (la = lb)) ∧ Ex w w' := by
  have hma := hA.small
  have hmb := hB.small
  obtain ⟨a, ca, rfl, _, hra⟩ := hA.is
  obtain ⟨b, cb, rfl, _, hrb⟩ := hB.is
  simp only [List.length_map] at *
  unfold maxLen at hma hmb
  refine ret_of Tryz.func18 Tryz.ntmps18 rfl rfl rfl ?_
  (repeat (first | refine lw_pure hT rfl ?_ | refine lw_nil ?_ | refine cw_seq ?_ | refine cw_region ?_ | refine qw_then ?_))
  refine cw_cond rfl (fun h => ?_) (fun h => ?_)
  · have hne : la ≠ lb := by rintro rfl; simp at h
    (repeat (first | refine lw_pure hT rfl ?_ | refine lw_nil ?_ | refine cw_seq ?_ | refine cw_region ?_ | refine qw_then ?_ | refine cw_ret ?_ | refine qw_then_ret ?_))
    exact qw_ret rfl ⟨by rw [decide_eq_false hne]; rfl, Ext.refl _ _⟩
  have hl : la.length = lb.length := by have := of_decide_eq_false h; omega
  (repeat (first | refine lw_pure hT rfl ?_ | refine lw_nil ?_ | refine cw_seq ?_ | refine cw_region ?_ | refine qw_then ?_ | refine cw_skip ?_ | refine cw_block ?_))
  refine cw_loop (fun i : Nat => [(0, .slice a la.length ca), (1, .slice b lb.length cb), (5, .int .i64 (i : Nat))]) (fun i w' => Ex w w' ∧ i ≤ la.length ∧ ∀ j (h1 : j < la.length) (h2 : j < lb.length), j < i → la[j] = lb[j]) (fun i => la.length - i) 0 (by repeat (first | exact trivial | refine ⟨rfl, ?_⟩)) ⟨Ext.refl _ _, Nat.zero_le _, fun j _ _ hj => by omega⟩ ?_
  rintro i w1 ⟨hx1, hi, he⟩
  (repeat (first | refine lw_pure hT rfl ?_ | refine lw_nil ?_ | refine cw_seq ?_ | refine cw_region ?_ | refine qw_then ?_))
  refine cw_cond rfl (fun h => ?_) (fun h => ?_)
  · have hlt : i < la.length := by simp at h; omega
    have hlt' : i < lb.length := by omega
    have hnea : la.map (fun s => [Value.string s]) ≠ [] := by intro e; simp at e; subst e; simp at hlt
    have hneb : lb.map (fun s => [Value.string s]) ≠ [] := by intro e; simp at e; subst e; simp at hlt'
    obtain ⟨ba, oa, rfl, _, hrda⟩ := hra hnea
    obtain ⟨bb, ob, rfl, _, hrdb⟩ := hrb hneb
    have ra := (hrda i [.string la[i]] (by simp [hlt])).2.ex hx1
    have rb := (hrdb i [.string lb[i]] (by simp [hlt'])).2.ex hx1
    (repeat (first | refine cw_seq ?_ | refine qw_then ?_ | refine cw_skip ?_ | refine cw_block ?_))
    refine cw_draw hM (fun w' => Ex w1 w') [] rfl rfl (by repeat with_reducible (first | refine nop_then ?_ | refine nop_block ?_ | exact nop_body)) (fun w2 hx2 _ => ⟨hx2, ?_⟩)
    (refine rw_takeP 0 rfl rfl (by kernel_rfl) (by kernel_rfl) (by kernel_rfl) (by kernel_rfl) rfl (yo_pure hT rfl) ?_; refine rw_takeP 1 rfl rfl (by kernel_rfl) (by kernel_rfl) (by kernel_rfl) (by kernel_rfl) rfl (yo_pure hT rfl) ?_)
    refine rw_takeP 2 rfl rfl (by kernel_rfl) (by kernel_rfl) (by kernel_rfl) (by kernel_rfl) rfl (yo_index hT rfl rfl rfl i rfl hlt) ?_
    refine rw_take 3 rfl rfl (by kernel_rfl) (by kernel_rfl) (by kernel_rfl) (by kernel_rfl) rfl (yo_load hT rfl rfl (v := .string la[i]) (fun w' hS => Ex.cell hS (ra 0 _ rfl))) ?_
    (refine rw_takeP 4 rfl rfl (by kernel_rfl) (by kernel_rfl) (by kernel_rfl) (by kernel_rfl) rfl (yo_pure hT rfl) ?_; refine rw_takeP 5 rfl rfl (by kernel_rfl) (by kernel_rfl) (by kernel_rfl) (by kernel_rfl) rfl (yo_pure hT rfl) ?_)
    refine rw_takeP 6 rfl rfl (by kernel_rfl) (by kernel_rfl) (by kernel_rfl) (by kernel_rfl) rfl (yo_index hT rfl rfl rfl i rfl hlt') ?_
    refine rw_take 7 rfl rfl (by kernel_rfl) (by kernel_rfl) (by kernel_rfl) (by kernel_rfl) rfl (yo_load hT rfl rfl (v := .string lb[i]) (fun w' hS => Ex.cell hS (rb 0 _ rfl))) ?_
    (refine rw_takeP 8 rfl rfl (by kernel_rfl) (by kernel_rfl) (by kernel_rfl) (by kernel_rfl) rfl (yo_pure hT rfl) ?_)
    refine rw_done (by kernel_rfl) ?_
    (repeat (refine qw_then ?_))
    refine cw_cond rfl (fun h' => ?_) (fun h' => ?_)
    · have hne : la ≠ lb := by rintro rfl; simp at h'
      (repeat (first | refine lw_pure hT rfl ?_ | refine lw_nil ?_ | refine cw_seq ?_ | refine cw_region ?_ | refine qw_then ?_ | refine cw_ret ?_ | refine qw_then_ret ?_ | refine qw_block_ret ?_))
      exact qw_ret rfl ⟨by rw [decide_eq_false hne]; rfl, hx1.trans hx2⟩
    · have h' : la[i] = lb[i] := by simpa using h'
      (repeat (first | (refine lw_add rfl rfl ?_ ?_ ?_; iterate 2 omega) | refine lw_pure hT rfl ?_ | refine lw_nil ?_ | refine cw_region ?_ | refine qw_then ?_ | refine cw_skip ?_ | refine qw_block ?_))
      refine qw_round (i + 1) (by repeat (first | exact trivial | refine ⟨rfl, ?_⟩)) ⟨hx1.trans hx2, hlt, fun j h1 h2 hji => ?_⟩ (by omega)
      by_cases e : j = i
      · subst e; exact h'
      · exact he j h1 h2 (by omega)
  · have : i = la.length := by simp at h; omega
    subst this
    (repeat (first | refine lw_pure hT rfl ?_ | refine lw_nil ?_ | refine cw_seq ?_ | refine cw_region ?_ | refine qw_then ?_ | refine cw_ret ?_ | refine cw_exit ?_ | refine qw_block_exit ?_ | refine qw_then_exit ?_))
    have heq : la = lb := List.ext_getElem hl fun j h1 h2 => he j h1 h2 h1
    exact qw_ret rfl ⟨by rw [decide_eq_true heq]; rfl, hx1⟩
end Go.Proofs.YtnglkhnfmbnfeaaGreat
namespace Go.Proofs.YtnglkhnfmbnfeaaGreat
open Go Go.SK
theorem rd_lt {w : World} {b o : Nat} {v : Value} {vs : List Value} (h : Rd w b o (v :: vs)) : b < w.heap.size := World.block_lt_of_cell? w ⟨b, o + 0, none⟩ (h 0 v rfl)
theorem ActAt.lt {A : Nat → Prop} {w : World} {a : ActD} {vb vp : Value} (h : ActAt A w a vb vp) : ActAt (fun b => A b ∧ b < w.heap.size) w a vb vp := ⟨h.boxes.lt (by decide), h.parents.lt (by decide), h.cap, h.ok⟩
theorem ActsAt.lt {A : Nat → Prop} {w : World} {v : Value} {l : List ActD} (h : ActsAt A w v l) : ActsAt (fun b => A b ∧ b < w.heap.size) w v l := by
  obtain ⟨p, cap, h1, h2, h3⟩ := h.is
  refine ⟨p, cap, h1, h2, fun i hi => ?_⟩
  obtain ⟨b, o, vb, vp, h4, h5, h6, h7⟩ := h3 i hi
  exact ⟨b, o, vb, vp, h4, ⟨h5, rd_lt h6⟩, h6, h7.lt⟩
theorem ActsAt.ok {A : Nat → Prop} {w : World} {v : Value} {l : List ActD} (h : ActsAt A w v l) : ∀ a ∈ l, a.Ok := by
  obtain ⟨p, cap, _, _, h3⟩ := h.is
  intro a ha
  obtain ⟨i, hi, rfl⟩ := List.getElem_of_mem ha
  obtain ⟨_, _, _, _, _, _, _, h7⟩ := h3 i hi
  exact h7.ok
theorem encB_one {A : Nat → Prop} {w : World} {b : BillD} {vb vp : Value} (h1 : vb.oneCell' = true) (h2 : vp.oneCell' = true) : ∀ u ∈ encB b vb vp, u.oneCell' = true := by
  intro u hu
  simp [encB] at hu
  rcases hu with rfl | rfl | rfl | rfl | rfl | rfl | rfl | rfl | rfl <;> first | rfl | assumption
def runA (r : RegD) (l : List ActD) : RegD := l.foldl doA r
theorem runA_take {r : RegD} {l : List ActD} {i : Nat} (hi : i < l.length) : runA r (l.take (i + 1)) = doA (runA r (l.take i)) l[i] := by
  unfold runA
  rw [List.take_succ_eq_append_getElem hi, List.foldl_append]; rfl
theorem runA_carrier (r : RegD) (l : List ActD) : (runA r l).carrier = r.carrier := by
  unfold runA
  induction l generalizing r with
  | nil => rfl
  | cons a l ih => rw [List.foldl_cons, ih, do_carrier]
theorem good_run {k : Nat} {r : RegD} : ∀ {l : List ActD}, Good k r → (∀ a ∈ l, a.Ok) → (∀ a ∈ l, 0 ≤ a.kind ∧ a.kind ≤ 5) → Good (k + l.length) (runA r l)
  | [], h, _, _ => h
  | a :: l, h, h1, h2 => by
    have h0 := h1 a List.mem_cons_self
    have := good_run (l := l) (good_do h (h2 a List.mem_cons_self) h0.b h0.to_) (fun x hx => h1 x (List.mem_cons_of_mem _ hx)) (fun x hx => h2 x (List.mem_cons_of_mem _ hx))
    rw [List.length_cons, show k + (l.length + 1) = k + 1 + l.length from by omega]
    exact this
def regC : RegD := ⟨⟨#[99]⟩, []⟩
structure PlayP (N : Nat) (w' : World) (r : RegD) (p m : Nat) (gs : List GhostE) (vL : Value) (fgs : List FG) (A : Nat → Prop) : Prop where
  rep : Rep w' p r m gs
  new : ∀ b ∈ foot p m gs, N ≤ b
  frep : FRep A w' vL r.l fgs
  dis : ∀ b, A b → b ∉ foot p m gs
  newA : ∀ b, A b → N ≤ b
theorem own_slice {w : World} {base e size n : Nat} {v : Value} {xs : List Value} (h : w.ownsRow base e size v n xs) (hn : 0 < n) : ∃ g cap, v = .slice (some ⟨g, 0, none⟩) n cap := by
  rcases h.2 with ⟨_, h0⟩ | ⟨g, cap, cur, rfl, _⟩
  · omega
  · exact ⟨g, cap, rfl⟩
theorem Mut.step {w w' w'' : World} {p m : Nat} {gs gs' : List GhostE} {r'' : RegD} (hf : ∀ b ∈ foot p m gs', b ∈ foot p m gs ∨ w.heap.size ≤ b) (hx : Ext (· ∈ foot p m gs) w w') (h : Mut w' p m gs' r'' w'') : Mut w p m gs r'' w'' := by
  obtain ⟨gs'', h1, h2⟩ := h.is
  refine ⟨⟨gs'', h1, fun b hb => ?_⟩, hx.trans' h.ext (fun _ _ h => h) (fun i hi g => ?_)⟩
  · rcases h2 b hb with h | h
    · exact hf b h
    · exact .inr (by have := hx.size; omega)
  · rcases hf i g with h | h
    · exact h
    · omega
theorem Mut.ex {w w' w'' : World} {p m : Nat} {gs : List GhostE} {r : RegD} (h : Mut w p m gs r w') (hx : Ex w' w'') : Mut w p m gs r w'' := by
  obtain ⟨gs', h1, h2⟩ := h.is
  exact ⟨⟨gs', h1.ex hx, h2⟩, h.ext.up hx⟩
end Go.Proofs.YtnglkhnfmbnfeaaGreat
namespace Go.SK
open Go
attribute [local semireducible] CW LW QW Ret Kn
section
variable {P : Program} {T : Tab} {n : Nat} {fr : Fr} {w : World} {Q : Exit → Act → World → Prop} {ops : Array Oper} {rest : List Oper}
theorem equalIn_bool (d : Nat) {t : Nat} {a b : Bool} (hu : P.underlying t = some .bool) : (Op.equalIn (d + 1) t (.bool a) (.bool b)).run P w = .ok (a == b) w := by
  simp [Op.equalIn, run_underlying hu]
theorem lw_neq_bool {d t : Nat} {a b : Bool} {x y : Operand} {t' : TypeId} {ty : TypeId} {ps : String} {af : Array Edge} (hu : P.underlying t = some .bool) (hx : ev n fr x = some (.bool a)) (hy : ev n fr y = some (.bool b))
    (k : LW P ops Q rest n ((d, .bool (!(a == b))) :: fr) w) :
    LW P ops Q ({ dst := some d, op := .binOp .neq t x y t', type := ty, pos := ps, after := af, guard := none } :: rest) n fr w := by
  refine lw_run rfl rfl (fun a' hk => ?_) k
  have hq : (Op.equal t (.bool a) (.bool b)).run P w = .ok (a == b) w := equalIn_bool 9999 hu
  simp only [execOp, ev_sound hk hx, ev_sound hk hy]
  simp [eqGuard, binOp, hq]
end
end Go.SK
namespace Go.Proofs.YtnglkhnfmbnfeaaGreat
open Go Go.SK
theorem Good.states {k : Nat} {r : RegD} (h : Good k r) (n : ByteArray) : (r.stateOf n = -1 ∨ r.stateOf n = 0) ∨ ∃ x, r.at? n = some x ∧ EntG k r.carrier x ∧ r.stateOf n = x.state ∧ ((x.state = 1 ∧ (x.ps.filter isDone).length = 1 ∧ ∀ q ∈ x.ps, q.state = 1 ∨ q.state = 2) ∨ (x.state = 4 ∧ ∀ q ∈ x.ps, q.state = 2)) := by
  unfold RegD.stateOf
  cases hat : r.at? n with
  | none => exact .inl (.inl rfl)
  | some x =>
    obtain ⟨_, i, hx⟩ := at_some hat
    have hE := h.ent x (List.mem_of_getElem? hx)
    rcases hE.st with h' | h' | h'
    · exact .inl (.inr h'.1)
    · exact .inr ⟨x, rfl, hE, rfl, .inl h'⟩
    · exact .inr ⟨x, rfl, hE, rfl, .inr h'⟩
end Go.Proofs.YtnglkhnfmbnfeaaGreat
namespace Go.Proofs.YtnglkhnfmbnfeaaGreat
open Go Go.SK
theorem zeroB_ok : zeroB.Ok := by
  refine ⟨?_, ?_, ?_, ?_, ?_, ?_, ?_⟩ <;> first | (show _ ≤ maxLen; decide) | (intro x hx; simp [zeroB] at hx)
end Go.Proofs.YtnglkhnfmbnfeaaGreat
namespace Go.Proofs.YtnglkhnfmbnfeaaGreat
open Go Go.SK
def retiA (bill by_ : ByteArray) (day : Int) : ActD := ⟨5, -1, day, bill, by_, ⟨#[]⟩, zeroB⟩
end Go.Proofs.YtnglkhnfmbnfeaaGreat
namespace Go.Proofs.YtnglkhnfmbnfeaaGreat
open Go Go.SK
def stepsC : RegD → List ActD → Int
  | _, [] => 0
  | r, a :: l => if actC r a = 0 then stepsC (doA r a) l else actC r a
def stepsR (r : RegD) (l : List ActD) : RegD := if stepsC r l = 0 then runA r l else r
theorem stepsC_append (r : RegD) : ∀ (l l' : List ActD), stepsC r (l ++ l') = if stepsC r l = 0 then stepsC (runA r l) l' else stepsC r l
  | [], l' => rfl
  | a :: l, l' => by
    by_cases h : actC r a = 0
    · have e : ∀ m, stepsC r (a :: m) = stepsC (doA r a) m := fun m => by simp only [stepsC]; rw [if_pos h]
      rw [List.cons_append, e, e, stepsC_append (doA r a) l l']; rfl
    · have e : ∀ m, stepsC r (a :: m) = actC r a := fun m => by simp only [stepsC]; rw [if_neg h]
      rw [List.cons_append, e, e, if_neg h]
theorem stepsC_snoc (r : RegD) (l : List ActD) (a : ActD) : stepsC r (l ++ [a]) = if stepsC r l = 0 then actC (runA r l) a else stepsC r l := by
  rw [stepsC_append]
  split
  · simp only [stepsC]; split <;> simp_all
  · rfl
theorem upd_len (r : RegD) (n : ByteArray) (f : EntD → EntD) : (r.upd n f).l.length = r.l.length := by simp [RegD.upd]
theorem do_len {r : RegD} {a : ActD} (h : r.l.length ≤ 256) : (doA r a).l.length ≤ 256 := by
  unfold doA
  split
  · unfold issueD
    split
    · next hc =>
      have : r.l.length ≠ 256 := by
        intro e
        unfold issueC at hc
        repeat' split at hc
        all_goals first | cases hc | contradiction
      simp; omega
    · exact h
  · split
    · rw [upd_len]; exact h
    · exact h
theorem run_len : ∀ {l : List ActD} {r : RegD}, r.l.length ≤ 256 → (runA r l).l.length ≤ 256
  | [], _, h => h
  | _ :: l, _, h => run_len (l := l) (do_len h)
theorem runA_append (r : RegD) (l l' : List ActD) : runA r (l ++ l') = runA (runA r l) l' := by simp [runA]
def StepOk (a : ActD) : Prop := (a.kind = 0 ∨ a.kind = 5) ∧ a.Ok
theorem good_steps {k : Nat} {r : RegD} (hG : Good k r) {l : List ActD} (h : ∀ a ∈ l, StepOk a) : Good (k + l.length) (stepsR r l) := by
  unfold stepsR
  split
  · exact good_run hG (fun a ha => (h a ha).2) (fun a ha => by have := (h a ha).1; omega)
  · exact hG.mono (Nat.le_add_right _ _)
theorem steps_len {r : RegD} (h : r.l.length ≤ 256) (l : List ActD) : (stepsR r l).l.length ≤ 256 := by
  unfold stepsR
  split
  · exact run_len h
  · exact h
def issA (b : BillD) (holder : ByteArray) : ActD := ⟨0, 0, 0, ⟨#[]⟩, ⟨#[]⟩, holder, b⟩
def nextB (b : BillD) (number : ByteArray) (boxes parents : List ByteArray) (day : Int) : BillD := { b with number := number, boxes := boxes, parents := parents, issued := day }
def PartP (boxes : List ByteArray) (parts : List (List ByteArray)) : Prop := (∀ p ∈ parts, p ≠ []) ∧ parts.flatten.Perm boxes
open Classical in
noncomputable def splitC (r : RegD) (bill by_ : ByteArray) (parts : List (List ByteArray)) (numbers : List ByteArray) (day : Int) : Int × List ActD := match r.at? bill with
  | none => (4, [])
  | some x => if parts.length < 2 ∨ 64 < parts.length ∨ numbers.length ≠ parts.length ∨ (∃ n ∈ numbers, nameB n = false) ∨ ¬ numbers.Nodup ∨ ¬ PartP x.bill.boxes parts then (1, [])
    else (0, retiA bill by_ day :: (parts.zip numbers).map fun q => issA (nextB x.bill q.2 q.1 [bill] day) by_)
def sameB (a b : BillD) : Prop := b.shipper = a.shipper ∧ b.frm = a.frm ∧ b.to_ = a.to_ ∧ b.clean = a.clean
open Classical in
noncomputable def joinC (r : RegD) (bills : List ByteArray) (by_ number : ByteArray) (day : Int) : Int × List ActD :=
  if bills.length < 2 ∨ 64 < bills.length ∨ ¬ bills.Nodup then (1, [])
  else if ∃ n ∈ bills, r.at? n = none then (4, [])
  else match bills.filterMap r.at? with
    | [] => (1, [])
    | x :: xs => if ∃ y ∈ xs, ¬ sameB x.bill y.bill then (12, [])
      else (0, bills.map (retiA · by_ day) ++ [issA (nextB x.bill number ((x :: xs).flatMap fun y => y.bill.boxes) bills day) by_])
def switchC (r : RegD) (bill by_ number shipper frm : ByteArray) (day : Int) : Int × List ActD := match r.at? bill with
  | none => (4, [])
  | some x => (0, [retiA bill by_ day, issA (nextB { x.bill with shipper := shipper, frm := frm } number x.bill.boxes [bill] day) by_])
def callC (r : RegD) (c : Int × List ActD) : Int := if c.1 = 0 then stepsC r c.2 else c.1
def callR (r : RegD) (c : Int × List ActD) : RegD := if c.1 = 0 then stepsR r c.2 else r
theorem nodup_perm : ∀ {a b : List ByteArray}, a.Nodup → (∀ x ∈ a, x ∈ b) → a.length = b.length → a.Perm b
  | [], b, _, _, hl => by
    have : b = [] := List.eq_nil_of_length_eq_zero hl.symm
    rw [this]
  | x :: a, b, hn, hs, hl => by
    obtain ⟨h1, h2⟩ := List.nodup_cons.1 hn
    have hx := hs x List.mem_cons_self
    obtain ⟨s, t, rfl⟩ := List.append_of_mem hx
    have hp : (s ++ x :: t).Perm (x :: (s ++ t)) := List.perm_middle
    refine (List.Perm.cons x (nodup_perm h2 (fun y hy => ?_) ?_)).trans hp.symm
    · have hyb := hp.mem_iff.1 (hs y (List.mem_cons_of_mem _ hy))
      rcases List.mem_cons.1 hyb with rfl | h
      · exact absurd hy h1
      · exact h
    · have := hp.length_eq
      simp only [List.length_cons] at this hl
      omega
theorem part_iff {boxes : List ByteArray} (hb : boxes.Nodup) {parts : List (List ByteArray)} : PartP boxes parts ↔ (∀ p ∈ parts, p ≠ []) ∧ parts.flatten.length = boxes.length ∧ parts.flatten.Nodup ∧ ∀ x ∈ parts.flatten, x ∈ boxes := by
  unfold PartP
  constructor
  · rintro ⟨h1, h2⟩
    exact ⟨h1, h2.length_eq, h2.nodup_iff.2 hb, fun x hx => h2.mem_iff.1 hx⟩
  · rintro ⟨h1, h2, h3, h4⟩
    exact ⟨h1, nodup_perm h3 h4 h2⟩
end Go.Proofs.YtnglkhnfmbnfeaaGreat
namespace Go.Proofs.YtnglkhnfmbnfeaaGreat
open Go Go.SK
def doneL (l : List EntD) (go : List (Option GhostE)) : List (ByteArray × Value) := (l.zip go).filterMap fun x => x.2.map fun g => (x.1.bill.number, Value.pointer (some ⟨g.e, 0, none⟩))
theorem doneL_set {g : GhostE} : ∀ {l : List EntD} {go : List (Option GhostE)} {i : Nat} {x : EntD}, l[i]? = some x → go[i]? = some none → (doneL l go ++ [(x.bill.number, Value.pointer (some ⟨g.e, 0, none⟩))]).Perm (doneL l (go.set i (some g)))
  | [], _, _, _, h, _ => by simp at h
  | _ :: _, [], _, _, _, h => by simp at h
  | a :: l, o :: go, 0, x, h, hg => by
    simp at h hg
    subst h hg
    simpa [doneL] using List.perm_append_comm (l₁ := doneL l go) (l₂ := [(a.bill.number, Value.pointer (some ⟨g.e, 0, none⟩))])
  | a :: l, o :: go, i + 1, x, h, hg => by
    have ih := doneL_set (g := g) (l := l) (go := go) (i := i) (x := x) (by simpa using h) (by simpa using hg)
    cases o with
    | none => simpa [doneL] using ih
    | some u => simpa [doneL] using ih
theorem doneL_all : ∀ {l : List EntD} {gs : List GhostE}, l.length = gs.length → doneL l (gs.map some) = mapOf l gs
  | [], [], _ => rfl
  | [], _ :: _, h => by simp at h
  | _ :: _, [], h => by simp at h
  | a :: l, g :: gs, h => by
    have ih := doneL_all (l := l) (gs := gs) (by simpa using h)
    simp only [doneL, mapOf] at ih ⊢
    simp [ih]
theorem doneL_mem {l : List EntD} {go : List (Option GhostE)} {e : ByteArray × Value} (h : e ∈ doneL l go) : ∃ (i : Nat) (x : EntD) (g : GhostE), l[i]? = some x ∧ go[i]? = some (some g) ∧ e.1 = x.bill.number := by
  obtain ⟨⟨x, o⟩, hz, he⟩ := List.mem_filterMap.1 h
  obtain ⟨i, hi⟩ := List.getElem?_of_mem hz
  rw [List.getElem?_zip_eq_some] at hi
  obtain ⟨g, hg, rfl⟩ := Option.map_eq_some_iff.1 he
  dsimp only at hg hi
  exact ⟨i, x, g, hi.1, by rw [hi.2, hg], rfl⟩
theorem mget_none {es : List (ByteArray × Value)} {k : ByteArray} (h : ∀ e ∈ es, k ≠ e.1) : mget es k = none := by
  unfold mget
  rw [Option.map_eq_none_iff, List.find?_eq_none]
  intro e he
  simpa using h e he
theorem all_some : ∀ {go : List (Option GhostE)}, (∀ o ∈ go, o ≠ none) → ∃ gs : List GhostE, go = gs.map some
  | [], _ => ⟨[], rfl⟩
  | none :: _, h => absurd rfl (h none List.mem_cons_self)
  | some g :: go, h => by
    obtain ⟨gs, rfl⟩ := all_some (go := go) fun o ho => h o (List.mem_cons_of_mem _ ho)
    exact ⟨g :: gs, rfl⟩
theorem set_chain {x : EntD} {g : GhostE} (h1 : x.ps.length = 3) (h2 : g.vcs.length = 3) {k : Nat} (hk : k < 3) (v : Value) : (entCells x g).set (10 + k * 3 + 2) v = entCells x { g with vcs := g.vcs.set k v } := by
  obtain ⟨bill, state, ps⟩ := x
  obtain ⟨e, vb, vp, vcs⟩ := g
  dsimp only at h1 h2
  obtain ⟨a, b, c, rfl⟩ := three_cases h1
  obtain ⟨u, y, z, rfl⟩ := three_cases h2
  match k, hk with
  | 0, _ => rfl
  | 1, _ => rfl
  | 2, _ => rfl
theorem set_bill (x : EntD) (g : GhostE) (e : Nat) (ub up : Value) : setMany (entCells x g) 0 (encB x.bill ub up) = entCells x ⟨e, ub, up, g.vcs⟩ := rfl
theorem entCells_one {w : World} {x : EntD} {g : GhostE} (h : EntOk w x g) : ∀ u ∈ entCells x g, u.oneCell' = true := by
  have h1 := own_one h.boxesO
  have h2 := own_one h.parentsO
  have hc := h.chains
  obtain ⟨bill, state, ps⟩ := x
  obtain ⟨e, vb, vp, vcs⟩ := g
  obtain ⟨a, b, c, rfl⟩ := three_cases h.three
  obtain ⟨u, y, z, rfl⟩ := three_cases h.three'
  have c0 := own_one (hc 0 a u rfl rfl)
  have c1 := own_one (hc 1 b y rfl rfl)
  have c2 := own_one (hc 2 c z rfl rfl)
  intro q hq
  simp [entCells, encB, papCells] at hq
  rcases hq with rfl | rfl | rfl | rfl | rfl | rfl | rfl | rfl | rfl | rfl | rfl | rfl | rfl | rfl | rfl | rfl | rfl | rfl | rfl <;> first | rfl | assumption
structure CopyI (N : Nat) (w' : World) (r : RegD) (p m : Nat) (go : List (Option GhostE)) (es : List (ByteArray × Value)) : Prop where
  len : r.l.length = go.length
  blk : Blk w' p [.string r.carrier, .map (some m)] 80
  map : Mp w' m es
  perm : es.Perm (doneL r.l go)
  ents : ∀ (i : Nat) (x : EntD) (g : GhostE), r.l[i]? = some x → go[i]? = some (some g) → EntOk w' x g
  fpn : ∀ (i : Nat) (g : GhostE), go[i]? = some (some g) → g.Nd ∧ m ∉ g.fp ∧ m ∉ g.rd ∧ p ∉ g.fp ∧ p ∉ g.rd
  disj : ∀ (i j : Nat) (g g' : GhostE), i ≠ j → go[i]? = some (some g) → go[j]? = some (some g') → ∀ b ∈ g.fp, b ∉ g'.fp
  rdn : ∀ (i j : Nat) (g g' : GhostE), go[i]? = some (some g) → go[j]? = some (some g') → ∀ b ∈ g.fp, b ∉ g'.rd
  new : ∀ (i : Nat) (g : GhostE), go[i]? = some (some g) → ∀ b, b ∈ g.fp ∨ b ∈ g.rd → N ≤ b
  pm : p ≠ m
  newp : N ≤ p ∧ N ≤ m
theorem CopyI.ex {N : Nat} {w' w'' : World} {r : RegD} {p m : Nat} {go : List (Option GhostE)} {es : List (ByteArray × Value)} (h : CopyI N w' r p m go es) (hx : Ex w' w'') : CopyI N w'' r p m go es :=
  ⟨h.len, h.blk.ex hx, h.map.ex hx, h.perm, fun i x g h1 h2 => (h.ents i x g h1 h2).ex hx, h.fpn, h.disj, h.rdn, h.new, h.pm, h.newp⟩
theorem CopyI.add {N : Nat} {w' w'' : World} {r : RegD} {p m : Nat} {go : List (Option GhostE)} {es : List (ByteArray × Value)} (h : CopyI N w' r p m go es) {M : Nat} (hM : N ≤ M) (hold : ∀ (i : Nat) (g : GhostE), go[i]? = some (some g) → ∀ b, b ∈ g.fp ∨ b ∈ g.rd → b < M) (hpm : p < M ∧ m < M) {i : Nat} {x : EntD} {g : GhostE} (hi : r.l[i]? = some x) (hg : go[i]? = some none)
    (hx : Ext (· = m) w' w'') (hm : Mp w'' m (es ++ [(x.bill.number, .pointer (some ⟨g.e, 0, none⟩))])) (hE : EntOk w'' x g) (hn : g.Nd) (hnew : ∀ b, b ∈ g.fp ∨ b ∈ g.rd → M ≤ b) (hd : ∀ b ∈ g.fp, b ∉ g.rd) : CopyI N w'' r p m (go.set i (some g)) (es ++ [(x.bill.number, .pointer (some ⟨g.e, 0, none⟩))]) := by
  have hgl : i < go.length := (List.getElem?_eq_some_iff.1 hg).1
  have get : ∀ (j : Nat) (u : GhostE), (go.set i (some g))[j]? = some (some u) → (j = i ∧ u = g) ∨ (j ≠ i ∧ go[j]? = some (some u)) := by
    intro j u hu
    by_cases e : i = j
    · subst e
      rw [List.getElem?_set_self hgl] at hu
      cases hu; exact .inl ⟨rfl, rfl⟩
    · rw [List.getElem?_set_ne e] at hu; exact .inr ⟨fun h => e h.symm, hu⟩
  refine ⟨by rw [h.len, List.length_set], h.blk.ext hx (fun e => h.pm e), hm, (h.perm.append_right _).trans (doneL_set hi hg), ?_, ?_, ?_, ?_, ?_, h.pm, h.newp⟩
  · intro j y u hy hu
    rcases get j u hu with ⟨rfl, rfl⟩ | ⟨_, hu⟩
    · rw [hi] at hy; cases hy; exact hE
    · exact (h.ents j y u hy hu).ext hx (fun b hb e => (h.fpn j u hu).2.1 (e ▸ hb)) (fun b hb e => (h.fpn j u hu).2.2.1 (e ▸ hb))
  · intro j u hu
    rcases get j u hu with ⟨rfl, rfl⟩ | ⟨_, hu⟩
    · exact ⟨hn, fun hb => by have := hnew _ (.inl hb); omega, fun hb => by have := hnew _ (.inr hb); omega, fun hb => by have := hnew _ (.inl hb); omega, fun hb => by have := hnew _ (.inr hb); omega⟩
    · exact h.fpn j u hu
  · intro j k u v hjk hu hv b hb hb'
    rcases get j u hu with ⟨e1, e2⟩ | ⟨_, hu'⟩ <;> rcases get k v hv with ⟨e3, e4⟩ | ⟨_, hv'⟩
    · exact hjk (e1.trans e3.symm)
    · subst e2; have := hnew b (.inl hb); have := hold k v hv' b (.inl hb'); omega
    · subst e4; have := hnew b (.inl hb'); have := hold j u hu' b (.inl hb); omega
    · exact h.disj j k u v hjk hu' hv' b hb hb'
  · intro j k u v hu hv b hb hb'
    rcases get j u hu with ⟨e1, e2⟩ | ⟨_, hu'⟩ <;> rcases get k v hv with ⟨e3, e4⟩ | ⟨_, hv'⟩
    · subst e2 e4; exact hd b hb hb'
    · subst e2; have := hnew b (.inl hb); have := hold k v hv' b (.inr hb'); omega
    · subst e4; have := hnew b (.inr hb'); have := hold j u hu' b (.inl hb); omega
    · exact h.rdn j k u v hu' hv' b hb hb'
  · intro j u hu b hb
    rcases get j u hu with ⟨rfl, rfl⟩ | ⟨_, hu⟩
    · exact Nat.le_trans hM (hnew b hb)
    · exact h.new j u hu b hb
theorem CopyI.rep {N : Nat} {w' : World} {r : RegD} {p m : Nat} {gs : List GhostE} {es : List (ByteArray × Value)} (h : CopyI N w' r p m (gs.map some) es) (hN : r.Nd) : Rep w' p r m gs ∧ ∀ b ∈ foot p m gs, N ≤ b := by
  have hl : r.l.length = gs.length := by rw [h.len, List.length_map]
  have get : ∀ (i : Nat) (g : GhostE), gs[i]? = some g → (gs.map some)[i]? = some (some g) := fun i g hg => by rw [List.getElem?_map, hg]; rfl
  refine ⟨⟨h.blk, ⟨es, h.map, by rw [← doneL_all hl]; exact h.perm⟩, hN, hl, fun i x g hx hg => h.ents i x g hx (get i g hg), fun i g hg => h.fpn i g (get i g hg), fun i j g g' hij hg hg' => h.disj i j g g' hij (get i g hg) (get j g' hg'), fun i j g g' hg hg' => h.rdn i j g g' (get i g hg) (get j g' hg'), h.pm⟩, ?_⟩
  intro b hb
  rcases foot_mem.1 hb with rfl | rfl | ⟨i, g, hg, hb⟩
  · exact h.newp.1
  · exact h.newp.2
  · exact h.new i g (get i g hg) b hb
section
variable {w : World} {p : Nat} {r : RegD} {m : Nat} {gs : List GhostE}
set_option maxHeartbeats 4000000 in
theorem reg_Copy (hR : Rep w p r m gs) (hs : r.Small) : Ret Tryz.prog 94 [.pointer (some ⟨p, 0, none⟩)] w fun v w' =>
    (∃ p' m' gs', v = .pointer (some ⟨p', 0, none⟩) ∧ Rep w' p' r m' gs' ∧ ∀ b ∈ foot p' m' gs', w.heap.size ≤ b) ∧ Ex w w' := by
  obtain ⟨es, hmp, hpm⟩ := hR.map
  have hkeys := hR.keys
  have hnes : (es.map (·.1)).Nodup := (hpm.map _).nodup_iff.2 hkeys
  refine ret_of Tryz.func94 Tryz.ntmps94 rfl rfl rfl ?_
  (repeat (first | refine lw_pure hT rfl ?_ | refine lw_nil ?_ | refine cw_seq ?_ | refine cw_region ?_ | refine qw_then ?_))
  refine lw_load hT rfl rfl (v := .string r.carrier) (hR.blk.cell 0) ?_
  skip
  refine lw_call hT rfl rfl (reg_New w r.carrier) ?_
  rintro _ w1 ⟨p', m', rfl, hR', hp', hm', hx1⟩
  (repeat (first | refine lw_pure hT rfl ?_ | refine lw_nil ?_ | refine cw_seq ?_ | refine cw_region ?_ | refine qw_then ?_))
  refine lw_load hT rfl rfl (v := .map (some m)) ((hR.blk.ex hx1).cell 1) ?_
  skip
  refine lw_range mp78 rfl (hmp.ex hx1) ?_
  intro bi w2 hbi hI2 hx2 hs2
  obtain ⟨es0, hmp0, hpm0⟩ := hR'.map
  have hes0 : es0 = [] := List.Perm.eq_nil (by simpa [mapOf] using hpm0)
  subst hes0
  have hml' := hmp0.lt
  have hpl' := hR'.blk.lt
  have hl1 := hx1.size
  have hl2 := hx2.size
  have hl12 := hmp.lt
  have hI0 : CopyI w.heap.size w2 r p' m' (r.l.map fun _ => none) [] := by
    refine ⟨by simp, hR'.blk.ex hx2, hmp0.ex hx2, ?_, ?_, ?_, ?_, ?_, ?_, hR'.pm, ⟨hp', hm'⟩⟩
    · have : doneL r.l (r.l.map fun _ => none) = [] := by
        unfold doneL
        rw [List.filterMap_eq_nil_iff]
        rintro ⟨x, o⟩ hz
        have := List.of_mem_zip hz
        simp at this
        simp [this.2]
      rw [this]
    all_goals
      intro i
      intros
      simp_all
  (repeat (first | refine lw_nil ?_ | refine qw_then ?_ | refine cw_block ?_))
  refine cw_loop (fun _ : List Nat => [(3, .pointer (some ⟨p', 0, none⟩)), (17, .pointer (some ⟨bi, 0, none⟩))])
    (fun seen w' => Ex w w' ∧ w2.heap.size ≤ w'.heap.size ∧ Itr w' bi m es.length seen ∧ (∀ j ∈ seen, j < es.length) ∧ ∃ go es', CopyI w.heap.size w' r p' m' go es' ∧ (∀ (i : Nat) (x : EntD), r.l[i]? = some x → (go[i]? = some none ↔ ¬ ∃ j ∈ seen, ∃ e, es[j]? = some e ∧ e.1 = x.bill.number)) ∧
      (∀ (i : Nat) (g : GhostE), go[i]? = some (some g) → bi ∉ g.fp ∧ bi ∉ g.rd)) (fun seen => left es.length seen) [] (by repeat (first | exact trivial | refine ⟨rfl, ?_⟩))
    ⟨hx1.trans hx2, Nat.le_refl _, hI2, by simp, _, [], hI0, ?_, ?_⟩ ?_
  · intro i x hi; simp [hi]
  · intro i g hg; simp at hg
  rintro seen w3 ⟨hx3, hl3, hI3, hlt, go, es', hC, hsn, hbif⟩
  (repeat (first | refine cw_seq ?_ | refine cw_region ?_))
  refine lw_next rfl (hmp.ex hx3) hI3 hlt (fun hall => ?_) ?_
  · (repeat (first | refine lw_pure hT rfl ?_ | refine lw_nil ?_ | refine cw_seq ?_ | refine cw_region ?_ | refine qw_then ?_ | refine cw_ret ?_ | refine cw_exit ?_ | refine qw_block_exit ?_ | refine qw_then_exit ?_ | (refine cw_cond_f rfl ?_ ?_; focus with_reducible (first | rfl | exact Bool.not_false | exact Bool.not_true))))
    have hne : ∀ o ∈ go, o ≠ none := by
      intro o ho e
      subst e
      obtain ⟨i, hi⟩ := List.getElem?_of_mem ho
      have hil : i < r.l.length := by rw [hC.len]; exact (List.getElem?_eq_some_iff.1 hi).1
      refine (hsn i r.l[i] (List.getElem?_eq_getElem hil)).1 hi ?_
      have hig : i < gs.length := hR.len ▸ hil
      have hin : (r.l[i].bill.number, Value.pointer (some ⟨gs[i].e, 0, none⟩)) ∈ mapOf r.l gs := by
        refine List.mem_map.2 ⟨(r.l[i], gs[i]), List.mem_of_getElem? (i := i) ?_, rfl⟩
        rw [List.getElem?_zip_eq_some]; exact ⟨List.getElem?_eq_getElem hil, List.getElem?_eq_getElem hig⟩
      obtain ⟨j, hj⟩ := List.getElem?_of_mem (hpm.mem_iff.2 hin)
      exact ⟨j, hall j (List.getElem?_eq_some_iff.1 hj).1, _, hj, rfl⟩
    obtain ⟨gs', rfl⟩ := all_some hne
    obtain ⟨h1, h2⟩ := hC.rep hR.nd
    exact qw_ret rfl ⟨⟨p', m', gs', rfl, h1, h2⟩, hx3⟩
  · intro j e w4 hj hjs hI4 hx4 hs4 hent
    obtain ⟨i, hi⟩ := List.getElem?_of_mem (hpm.mem_iff.1 (List.mem_of_getElem? hj))
    obtain ⟨y, g, h1, h2, rfl⟩ := mapOf_get hi
    have hjl := (List.getElem?_eq_some_iff.1 hj).1
    have hgo : go[i]? = some none := by
      refine (hsn i y h1).2 ?_
      rintro ⟨j', hj', e', he', hk⟩
      have hne : j' ≠ j := fun h => hjs (h ▸ hj')
      have hj'l := (List.getElem?_eq_some_iff.1 he').1
      have a1 : (es.map (·.1))[j']? = some y.bill.number := by rw [List.getElem?_map, he']; simp [hk]
      have a2 : (es.map (·.1))[j]? = some y.bill.number := by rw [List.getElem?_map, hj]; rfl
      exact hne ((List.getElem?_inj (by simpa using hj'l) hnes).1 (a1.trans a2.symm))
    have hE := hR.ents i y g h1 h2
    have hx04 : Ex w w4 := hx3.up_new hx4 (fun i hi => by omega)
    have hC4 : CopyI w.heap.size w4 r p' m' go es' := by
      refine ⟨hC.len, hC.blk.ext hx4 (by omega), hC.map.ext hx4 (by omega), hC.perm, fun i x g hx hg => (hC.ents i x g hx hg).ext hx4 (fun b hb e => (hbif i g hg).1 (e ▸ hb)) (fun b hb e => (hbif i g hg).2 (e ▸ hb)), hC.fpn, hC.disj, hC.rdn, hC.new, hC.pm, hC.newp⟩
    have hE4 := hE.ex hx04
    have h3 := hE.three
    have h3' := hE.three'
    have hsm := hs y (List.mem_of_getElem? h1)
    have hl4 := hx04.size
    (repeat (first | refine lw_pure hT rfl ?_ | refine lw_nil ?_ | refine cw_seq ?_ | refine cw_region ?_ | refine qw_then ?_ | refine cw_skip ?_ | refine cw_block ?_ | (refine cw_cond_t rfl ?_ ?_; focus with_reducible (first | rfl | exact Bool.not_false | exact Bool.not_true))))
    refine lw_entry rfl hent ?_
    (repeat (first | refine lw_pure hT rfl ?_ | refine lw_nil ?_ | refine cw_seq ?_ | refine cw_region ?_ | refine qw_then ?_))
    refine lw_load_agg hT rfl rfl (by rw [entCells_len h3 h3']; rfl) (vs := entCells y g) (by have := hE4.blk.rd 0 19; rw [List.drop_zero, List.take_of_length_le (Nat.le_of_eq (entCells_len h3 h3'))] at this; exact this) ?_
    skip
    refine lw_alloc z87 ?_
    intro bd w5 hbbd hbd hx5 hs5
    skip
    refine lw_store_agg hT rfl rfl rfl (by rw [entCells_len h3 h3']; rfl) (entCells_one hE4) hbd (by rw [entCells_len h3 h3']; decide) ?_
    intro w6 hbd6 hx6 hs6
    replace hbd6 : Blk w6 bd (entCells y g) 87 := by
      have : ∀ (a : List Value), a.length = 19 → ∀ (c : List Value), c.length = 19 → setMany a 0 c = c := by
        intro a ha c hc
        match a, ha, c, hc with
        | [_, _, _, _, _, _, _, _, _, _, _, _, _, _, _, _, _, _, _], _, [_, _, _, _, _, _, _, _, _, _, _, _, _, _, _, _, _, _, _], _ => rfl
      rwa [this _ rfl _ (entCells_len h3 h3')] at hbd6
    have hx46 : Ex w4 w6 := hx5.up_new hx6 (fun i h => by omega)
    (repeat (first | refine lw_pure hT rfl ?_ | refine lw_nil ?_ | refine cw_seq ?_ | refine cw_region ?_ | refine qw_then ?_))
    refine lw_load_agg hT rfl rfl rfl (vs := encB y.bill g.vb g.vp) ((hE4.blk.ex hx46).rd 0 9) ?_
    skip
    refine lw_call hT rfl rfl (reg_own w6 (hE4.boxes.ex hx46) (hE4.parents.ex hx46) hsm.2.1 hsm.2.2) ?_
    rintro _ w7 ⟨ub, up, rfl, hub, hup, hx7⟩
    (repeat (refine lw_pure hT rfl ?_))
    refine lw_store_agg hT rfl rfl rfl rfl (encB_one (A := fun _ => True) (w := w) (own_one hub) (own_one hup)) (hbd6.ex hx7) (by rw [entCells_len h3 h3']; show (9 : Nat) ≤ 19; decide) ?_
    intro w8 hbd8 hx8 hs8
    rw [set_bill y g bd ub up] at hbd8
    have hl46 := hx46.size
    have hl7 := hx7.size
    have hx48 : Ex w4 w8 := (hx46.trans hx7).up_new hx8 (fun i h => by omega)
    have hbdl := hbd6.lt
    have hub8 := own_ext hub hx8 (fun k hk e => by have := own_base hub hk; omega)
    have hup8 := own_ext hup hx8 (fun k hk e => by have := own_base hup hk; omega)
    (repeat (first | refine lw_pure hT rfl ?_ | refine lw_nil ?_ | refine cw_seq ?_ | refine cw_region ?_ | refine qw_then ?_ | refine cw_block ?_))
    refine cw_loop (fun k : Nat => [(3, .pointer (some ⟨p', 0, none⟩)), (4, .string y.bill.number), (6, .pointer (some ⟨bd, 0, none⟩)), (17, .pointer (some ⟨bi, 0, none⟩)), (32, .int .i64 (k : Nat))])
      (fun k w' => k ≤ 3 ∧ Ex w4 w' ∧ w8.heap.size ≤ w'.heap.size ∧ ∃ us, us.length = 3 ∧ Blk w' bd (entCells y ⟨bd, ub, up, us⟩) 87 ∧ w'.ownsRow w6.heap.size 9 1 ub y.bill.boxes.length (y.bill.boxes.map Value.string) ∧
        w'.ownsRow w6.heap.size 9 1 up y.bill.parents.length (y.bill.parents.map Value.string) ∧ (∀ j, k ≤ j → us[j]? = g.vcs[j]?) ∧
        (∀ (j : Nat) (q : PapD) (v : Value), j < k → y.ps[j]? = some q → us[j]? = some v → w'.ownsRow w8.heap.size 139 4 v q.chain.length (q.chain.map encE).flatten) ∧
        (∀ (j j' : Nat) (v v' : Value) (b : Nat), j < k → j' < k → j ≠ j' → us[j]? = some v → us[j']? = some v' → v.ownBlock = some b → v'.ownBlock ≠ some b))
      (fun k => 3 - k) 0 (by repeat (first | exact trivial | refine ⟨rfl, ?_⟩)) ⟨Nat.zero_le _, hx48, Nat.le_refl _, g.vcs, h3', hbd8, hub8, hup8, fun _ _ => rfl, fun j _ _ h => by omega, fun j _ _ _ _ h => by omega⟩ ?_
    rintro k w9 ⟨hk, hx49, hl9, us, hus, hbd9, hub9, hup9, hold, hnew, hnd⟩
    (repeat (first | refine lw_pure hT rfl ?_ | refine lw_nil ?_ | refine cw_seq ?_ | refine cw_region ?_ | refine qw_then ?_))
    refine cw_cond rfl (fun e => ?_) (fun e => ?_)
    · have hlt : k < 3 := by have := of_decide_eq_true e; omega
      obtain ⟨q, hq⟩ : ∃ q, y.ps[k]? = some q := ⟨_, List.getElem?_eq_getElem (by rw [h3]; exact hlt)⟩
      obtain ⟨vc, hvc⟩ : ∃ vc, g.vcs[k]? = some vc := ⟨_, List.getElem?_eq_getElem (by rw [h3']; exact hlt)⟩
      have husk : us[k]? = some vc := (hold k (Nat.le_refl _)).trans hvc
      have hch := (hE4.chains k q vc hq hvc)
      have hc : w9.cell? ⟨bd, 0 + 10 + k * 3 + 2, none⟩ = some vc := by
        rw [hbd9.cell]
        obtain ⟨q', vc', hq', hvc', _, _, hcc⟩ := entCells_paper (x := y) (g := ⟨bd, ub, up, us⟩) h3 hus hlt
        rw [show 0 + 10 + k * 3 + 2 = 10 + k * 3 + 2 from by omega, hcc]
        rw [← husk]; exact hvc'.symm
      have hcl := (hsm.1 q (List.mem_of_getElem? hq))
      (repeat (first | refine lw_pure hT rfl ?_ | refine lw_nil ?_ | refine cw_seq ?_ | refine cw_region ?_ | refine qw_then ?_ | refine cw_skip ?_ | refine cw_block ?_))
      refine lw_index_arr hT rfl rfl rfl k rfl hlt ?_
      (repeat (refine lw_pure hT rfl ?_))
      refine lw_load hT rfl rfl hc ?_
      skip
      refine lw_call hT rfl rfl (clone_end w9 ((hch.sl (A := fun _ => True) fun _ _ => trivial).ex hx49) hcl) ?_
      rintro u w10 ⟨hu, hx10⟩
      (repeat (refine lw_pure hT rfl ?_))
      refine lw_index_arr hT rfl rfl rfl k rfl hlt ?_
      (repeat (refine lw_pure hT rfl ?_))
      refine lw_store (size := 1) hT rfl rfl rfl (own_one hu) (hbd9.ex hx10) (show 0 + 10 + k * 3 + 2 < _ by rw [entCells_len h3 hus]; omega) ?_
      intro w11 hbd11 hx11 hs11
      have hl10 := hx10.size
      have hl49 := hx49.size
      have hbd9l := hbd9.lt
      rw [show 0 + 10 + k * 3 + 2 = 10 + k * 3 + 2 from by omega, set_chain h3 hus hlt] at hbd11
      have keep : ∀ {base e size n : Nat} {v : Value} {xs : List Value}, w9.ownsRow base e size v n xs → bd < base → w11.ownsRow base e size v n xs := fun h hb => own_ext (own_ex h hx10) hx11 (fun k hk e => by have := own_base h hk; omega)
      have hu11 := own_ext hu hx11 (fun k hk e => by have := own_base hu hk; omega)
      (repeat (first | (refine lw_add rfl rfl ?_ ?_ ?_; iterate 2 omega) | refine lw_pure hT rfl ?_ | refine lw_nil ?_ | refine cw_region ?_ | refine qw_then ?_ | refine qw_block ?_))
      refine qw_round (k + 1) (by repeat (first | exact trivial | refine ⟨rfl, ?_⟩)) ⟨hlt, (hx49.trans hx10).up_new hx11 (fun i h => by omega), by have := hx11.size; omega, us.set k u, by simp [hus], hbd11, keep hub9 (by omega), keep hup9 (by omega), fun j hj => ?_, fun j q' v hj hq' hv => ?_, fun j j' v v' b hj hj' hjj hv hv' hb hb' => ?_⟩ (by omega)
      · rw [List.getElem?_set_ne (by omega)]; exact hold j (by omega)
      · by_cases ej : k = j
        · subst ej
          rw [List.getElem?_set_self (by rw [hus]; exact hlt)] at hv
          cases hv
          rw [hq] at hq'; cases hq'
          exact own_mono hu11 hl9
        · rw [List.getElem?_set_ne ej] at hv
          exact keep (hnew j q' v (by omega) hq' hv) (by omega)
      · have old : ∀ (j : Nat) (v : Value) (b : Nat), j < k → us[j]? = some v → v.ownBlock = some b → b < w9.heap.size := by
          intro j v b hj hv hb
          obtain ⟨q', hq'⟩ : ∃ q, y.ps[j]? = some q := ⟨_, List.getElem?_eq_getElem (by rw [h3]; omega)⟩
          exact (own_base (hnew j q' v hj hq' hv) hb).2
        by_cases ej : k = j
        · subst ej
          rw [List.getElem?_set_self (by rw [hus]; exact hlt)] at hv
          rw [List.getElem?_set_ne (by omega)] at hv'
          cases hv
          have := own_base hu hb
          have := old j' v' b (by omega) hv' hb'
          omega
        · rw [List.getElem?_set_ne ej] at hv
          by_cases ej' : k = j'
          · subst ej'
            rw [List.getElem?_set_self (by rw [hus]; exact hlt)] at hv'
            cases hv'
            have := own_base hu hb'
            have := old j v b (by omega) hv hb
            omega
          · rw [List.getElem?_set_ne ej'] at hv'
            exact hnd j j' v v' b (by omega) (by omega) hjj hv hv' hb hb'
    · have ek : k = 3 := by have := of_decide_eq_false e; omega
      subst ek
      have hC9 := hC4.ex hx49
      have hE9 : EntOk w9 y ⟨bd, ub, up, us⟩ := by
        refine ⟨hbd9, own_mono hub9 (Nat.zero_le _), own_mono hup9 (Nat.zero_le _), h3, hus, fun j q vc hq hvc => ?_⟩
        have hj : j < 3 := by have := (List.getElem?_eq_some_iff.1 hvc).1; rw [show (⟨bd, ub, up, us⟩ : GhostE).vcs = us from rfl, hus] at this; exact this
        exact own_mono (hnew j q vc hj hq hvc) (Nat.zero_le _)
      have hub78 : ∀ b, ub.ownBlock = some b → w6.heap.size ≤ b ∧ b < w7.heap.size := fun b hb => own_base hub hb
      have hup78 : ∀ b, up.ownBlock = some b → w6.heap.size ≤ b ∧ b < w7.heap.size := fun b hb => own_base hup hb
      have hvb : ∀ (j : Nat) (v : Value) (b : Nat), us[j]? = some v → v.ownBlock = some b → w8.heap.size ≤ b ∧ b < w9.heap.size := by
        intro j v b hv hb
        have hj : j < 3 := by have := (List.getElem?_eq_some_iff.1 hv).1; rw [hus] at this; exact this
        obtain ⟨q', hq'⟩ : ∃ q, y.ps[j]? = some q := ⟨_, List.getElem?_eq_getElem (by rw [h3]; omega)⟩
        exact own_base (hnew j q' v hj hq' hv) hb
      have hNd : (⟨bd, ub, up, us⟩ : GhostE).Nd := by
        refine ⟨fun j v hv hb => ?_, fun j j' v v' b hjj hv hv' hb hb' => ?_⟩
        · have := hvb j v bd hv hb; omega
        · have hj : j < 3 := by have := (List.getElem?_eq_some_iff.1 hv).1; rw [show (⟨bd, ub, up, us⟩ : GhostE).vcs = us from rfl, hus] at this; exact this
          have hj' : j' < 3 := by have := (List.getElem?_eq_some_iff.1 hv').1; rw [show (⟨bd, ub, up, us⟩ : GhostE).vcs = us from rfl, hus] at this; exact this
          exact hnd j j' v v' b hj hj' hjj hv hv' hb hb'
      have hfp : ∀ b, b ∈ (⟨bd, ub, up, us⟩ : GhostE).fp → b = bd ∨ w8.heap.size ≤ b := by
        intro b hb
        rcases GhostE.fp_mem.1 hb with h | ⟨j, v, hv, hb⟩
        · exact .inl h
        · exact .inr (hvb j v b hv hb).1
      have hrd : ∀ b, b ∈ (⟨bd, ub, up, us⟩ : GhostE).rd → w6.heap.size ≤ b ∧ b < w7.heap.size := by
        intro b hb
        rcases GhostE.rd_mem.1 hb with hb | hb
        · exact hub78 b hb
        · exact hup78 b hb
      have hl5 := hx5.size
      have hold4 : ∀ (i : Nat) (g : GhostE), go[i]? = some (some g) → ∀ b, b ∈ g.fp ∨ b ∈ g.rd → b < w4.heap.size := by
        intro i' g' hg' b hb
        have hil : i' < r.l.length := by rw [hC.len]; exact (List.getElem?_eq_some_iff.1 hg').1
        exact (hC4.ents i' _ g' (List.getElem?_eq_getElem hil) hg').lt hb
      have hpl4 := hC4.blk.lt
      have hml4 := hC4.map.lt
      have hnone : mget es' y.bill.number = none := by
        refine mget_none fun e' he' hk => ?_
        obtain ⟨i', x', g', hx', hg', hk'⟩ := doneL_mem (hC.perm.mem_iff.1 he')
        have := hR.nd i i' y x' h1 hx' (hk.trans hk')
        subst this
        rw [hgo] at hg'; cases hg'
      (repeat (first | refine lw_pure hT rfl ?_ | refine cw_region ?_ | refine qw_then ?_ | refine cw_exit ?_ | refine qw_block_exit ?_ | refine qw_then_exit ?_))
      refine lw_load hT rfl rfl (v := .map (some m')) (hC9.blk.cell 1) ?_
      (repeat (refine lw_pure hT rfl ?_))
      refine lw_mapUpdate mp78 rfl rfl rfl hC9.map hnone ?_
      intro w10 hmp10 hx10 hs10
      have hE10 : EntOk w10 y ⟨bd, ub, up, us⟩ := hE9.ext hx10 (fun b hb e => by rcases hfp b hb with h | h <;> omega) (fun b hb e => by have := hrd b hb; omega)
      have hC10 := hC9.add (M := w4.heap.size) hl4 hold4 ⟨hpl4, hml4⟩ h1 hgo hx10 hmp10 hE10 hNd (fun b hb => by
        rcases hb with hb | hb
        · rcases hfp b hb with h | h <;> omega
        · have := hrd b hb; omega) (fun b hb hb' => by
        have := hrd b hb'
        rcases hfp b hb with h | h <;> omega)
      (repeat (first | refine lw_nil ?_ | refine qw_block ?_))
      have hl49 := hx49.size
      refine qw_round (seen ++ [j]) (by repeat (first | exact trivial | refine ⟨rfl, ?_⟩)) ⟨(hx04.trans hx49).up_new hx10 (fun i h => by omega), by have := hx10.size; omega, ((hI4.ex hx49).ext hx10 (by omega)), ?_, go.set i (some ⟨bd, ub, up, us⟩), _, hC10, ?_, ?_⟩ (left_lt hjl hjs)
      · intro k hk; simp at hk; exact hk.elim (fun hk => hlt k hk) (fun e => by subst e; exact hjl)
      · intro i' x' hx'
        by_cases ei : i = i'
        · subst ei
          rw [h1] at hx'; cases hx'
          rw [List.getElem?_set_self (by rw [← hC.len]; exact (List.getElem?_eq_some_iff.1 h1).1)]
          constructor
          · intro h; cases h
          · intro h; exact absurd ⟨j, by simp, _, hj, rfl⟩ h
        · rw [List.getElem?_set_ne ei, hsn i' x' hx']
          constructor
          · rintro h ⟨j', hj', e', he', hk⟩
            simp at hj'
            rcases hj' with hj' | rfl
            · exact h ⟨j', hj', e', he', hk⟩
            · rw [hj] at he'; cases he'
              exact ei (hR.nd i i' y x' h1 hx' hk)
          · rintro h ⟨j', hj', e', he', hk⟩
            exact h ⟨j', by simp [hj'], e', he', hk⟩
      · intro i' g' hg'
        by_cases ei : i = i'
        · subst ei
          rw [List.getElem?_set_self (by rw [← hC.len]; exact (List.getElem?_eq_some_iff.1 h1).1)] at hg'
          cases hg'
          exact ⟨fun h => by rcases hfp _ h with h | h <;> omega, fun h => by have := hrd _ h; omega⟩
        · rw [List.getElem?_set_ne ei] at hg'
          exact hbif i' g' hg'
end
end Go.Proofs.YtnglkhnfmbnfeaaGreat
namespace Go.Proofs.YtnglkhnfmbnfeaaGreat
open Go Go.SK
theorem stepsC_at {r : RegD} {l : List ActD} {i : Nat} (hi : i < l.length) (h0 : stepsC r (l.take i) = 0) (h : actC (runA r (l.take i)) l[i] ≠ 0) : stepsC r l = actC (runA r (l.take i)) l[i] := by
  have e : l = l.take i ++ l[i] :: l.drop (i + 1) := by rw [List.getElem_cons_drop]; exact (List.take_append_drop i l).symm
  have := stepsC_append r (l.take i) (l[i] :: l.drop (i + 1))
  rw [← e, if_pos h0] at this
  rw [this]
  simp only [stepsC]
  rw [if_neg h]
theorem stepsC_take {r : RegD} {l : List ActD} {i : Nat} (hi : i < l.length) (h0 : stepsC r (l.take i) = 0) (h : actC (runA r (l.take i)) l[i] = 0) : stepsC r (l.take (i + 1)) = 0 := by
  rw [List.take_succ_eq_append_getElem hi, stepsC_snoc, if_pos h0]; exact h
structure RetAt (A : Nat → Prop) (w : World) (v : Value) (a : ActD) : Prop where
  is : ∃ b1 b2 b3, v = .func (.func 92) #[] #[.pointer (some ⟨b1, 0, none⟩), .pointer (some ⟨b2, 0, none⟩), .pointer (some ⟨b3, 0, none⟩)] ∧ A b1 ∧ A b2 ∧ A b3 ∧ Blk w b1 [.string a.bill] 9 ∧ Blk w b2 [.string a.by_] 9 ∧ Blk w b3 [.int .i64 a.day] 3
  kind : a.kind = 5
structure IssAt (A : Nat → Prop) (w : World) (v : Value) (a : ActD) : Prop where
  is : ∃ b1 b2 vb vp, v = .func (.func 93) #[] #[.pointer (some ⟨b1, 0, none⟩), .pointer (some ⟨b2, 0, none⟩)] ∧ A b1 ∧ A b2 ∧ Blk w b1 (encB a.b vb vp) 33 ∧ SlS A w vb a.b.boxes ∧ SlS A w vp a.b.parents ∧ Blk w b2 [.string a.to_] 9
  kind : a.kind = 0
def StepAt (A : Nat → Prop) (w : World) (v : Value) (a : ActD) : Prop := RetAt A w v a ∨ IssAt A w v a
theorem StepAt.ext {A F : Nat → Prop} {w w' : World} {v : Value} {a : ActD} (h : StepAt A w v a) (hx : Ext F w w') (hn : ∀ b, A b → ¬ F b) : StepAt A w' v a := by
  rcases h with h | h
  · obtain ⟨b1, b2, b3, h1, h2, h3, h4, h5, h6, h7⟩ := h.is
    exact .inl ⟨⟨b1, b2, b3, h1, h2, h3, h4, h5.ext hx (hn _ h2), h6.ext hx (hn _ h3), h7.ext hx (hn _ h4)⟩, h.kind⟩
  · obtain ⟨b1, b2, vb, vp, h1, h2, h3, h4, h5, h6, h7⟩ := h.is
    exact .inr ⟨⟨b1, b2, vb, vp, h1, h2, h3, h4.ext hx (hn _ h2), h5.ext hx hn, h6.ext hx hn, h7.ext hx (hn _ h3)⟩, h.kind⟩
theorem StepAt.ex {A : Nat → Prop} {w w' : World} {v : Value} {a : ActD} (h : StepAt A w v a) (hx : Ex w w') : StepAt A w' v a := h.ext hx fun _ _ f => f
theorem step_call {A : Nat → Prop} {w : World} {v : Value} {a : ActD} (h : StepAt A w v a) {p m : Nat} {r : RegD} {gs : List GhostE} (hR : Rep w p r m gs) (hN : r.Nd) (hok : a.Ok) :
    ∃ f c, v = .func (.func f) ⟨[]⟩ ⟨c⟩ ∧ memN T.fns f = true ∧ Ret Tryz.prog f ([] ++ [.pointer (some ⟨p, 0, none⟩)] ++ c) w fun u w' => u = .int .i64 (actC r a) ∧ Mut w p m gs (doA r a) w' := by
  rcases h with h | h
  · obtain ⟨b1, b2, b3, rfl, h2, h3, h4, h5, h6, h7⟩ := h.is
    refine ⟨_, [_, _, _], rfl, rfl, ?_⟩
    refine ret_of Tryz.func92 Tryz.ntmps92 rfl rfl rfl ?_
    (repeat (first | refine lw_pure hT rfl ?_ | refine lw_nil ?_ | refine cw_seq ?_ | refine cw_region ?_ | refine qw_then ?_))
    refine lw_load hT rfl rfl (v := .string a.bill) (h5.cell 0) ?_
    skip
    refine lw_load hT rfl rfl (v := .string a.by_) (h6.cell 0) ?_
    skip
    refine lw_load hT rfl rfl (v := .int .i64 a.day) (h7.cell 0) ?_
    skip
    refine lw_call hT rfl rfl (reg_Retire hR hN a h.kind) ?_
    rintro _ w1 ⟨rfl, hm⟩
    (repeat (first | refine lw_pure hT rfl ?_ | refine lw_nil ?_ | refine qw_then ?_ | refine cw_ret ?_))
    exact qw_ret rfl ⟨rfl, hm⟩
  · obtain ⟨b1, b2, vb, vp, rfl, h2, h3, h4, h5, h6, h7⟩ := h.is
    refine ⟨_, [_, _], rfl, rfl, ?_⟩
    have hk := h.kind
    refine ret_of Tryz.func93 Tryz.ntmps93 rfl rfl rfl ?_
    (repeat (first | refine lw_pure hT rfl ?_ | refine lw_nil ?_ | refine cw_seq ?_ | refine cw_region ?_ | refine qw_then ?_))
    refine lw_load_agg hT rfl rfl rfl (vs := encB a.b vb vp) (h4.rd 0 9) ?_
    skip
    refine lw_load hT rfl rfl (v := .string a.to_) (h7.cell 0) ?_
    skip
    refine lw_call hT rfl rfl (reg_Issue hR h5 h6 hok.b a.to_ hok.to_) ?_
    rintro _ w1 ⟨rfl, hm⟩
    (repeat (first | refine lw_pure hT rfl ?_ | refine lw_nil ?_ | refine qw_then ?_ | refine cw_ret ?_))
    have e1 : actC r a = issueC r a.b a.to_ := by unfold actC; rw [if_pos hk]
    have e2 : doA r a = issueD r a.b a.to_ := by unfold doA; rw [if_pos hk]
    exact qw_ret rfl ⟨by rw [e1]; rfl, by rw [e2]; exact hm⟩
structure StepsAt (A : Nat → Prop) (w : World) (v : Value) (l : List ActD) : Prop where
  is : ∃ b o cap, v = .slice (some ⟨b, o, none⟩) l.length cap ∧ A b ∧ ∀ i (hi : i < l.length), ∃ fv, Rd w b (o + i * 1) [fv] ∧ StepAt A w fv l[i]
  small : l.length ≤ 65
theorem StepsAt.ext {A F : Nat → Prop} {w w' : World} {v : Value} {l : List ActD} (h : StepsAt A w v l) (hx : Ext F w w') (hn : ∀ b, A b → ¬ F b) : StepsAt A w' v l := by
  obtain ⟨b, o, cap, h1, h2, h3⟩ := h.is
  refine ⟨⟨b, o, cap, h1, h2, fun i hi => ?_⟩, h.small⟩
  obtain ⟨fv, h4, h5⟩ := h3 i hi
  exact ⟨fv, h4.ext hx (hn b h2), h5.ext hx hn⟩
set_option maxHeartbeats 2000000 in
theorem spl_do {A : Nat → Prop} {w : World} {p m k : Nat} {r : RegD} {gs : List GhostE} {v : Value} {l : List ActD} (hR : Rep w p r m gs) (hG : Good k r) (hk : k + l.length ≤ 1000000) (hS : StepsAt A w v l) (hok : ∀ a ∈ l, StepOk a) (hdis : ∀ b, A b → b ∉ foot p m gs ∧ b < w.heap.size) :
    Ret Tryz.prog 47 [.pointer (some ⟨p, 0, none⟩), v] w fun u w' => u = .int .i64 (stepsC r l) ∧ Mut w p m gs (stepsR r l) w' := by
  obtain ⟨b, o, cap, rfl, hAb, hrow⟩ := hS.is
  have hsm := hS.small
  have good : ∀ i, i ≤ l.length → Good (k + i) (runA r (l.take i)) := fun i hi => by
    have := good_run (l := l.take i) hG (fun a ha => (hok a (List.mem_of_mem_take ha)).2) (fun a ha => by have := (hok a (List.mem_of_mem_take ha)).1; omega)
    have e : (l.take i).length = i := by simp; omega
    rw [e] at this
    exact this
  refine ret_of Tryz.func47 Tryz.ntmps47 rfl rfl rfl ?_
  (repeat (first | refine lw_pure hT rfl ?_ | refine lw_nil ?_ | refine cw_seq ?_ | refine cw_region ?_ | refine qw_then ?_))
  refine lw_call hT rfl rfl (reg_Copy hR (hG.small (by omega))) ?_
  rintro _ w1 ⟨⟨pc, mc, gc, rfl, hC, hCn⟩, hx1⟩
  (repeat (first | refine lw_pure hT rfl ?_ | refine lw_nil ?_ | refine cw_seq ?_ | refine cw_region ?_ | refine qw_then ?_ | refine cw_block ?_))
  refine cw_loop (fun i : Nat => [(0, pB p), (1, .slice (some ⟨b, o, none⟩) l.length cap), (5, pB pc), (13, .slice (some ⟨b, o, none⟩) l.length cap), (14, .int .i64 (l.length : Nat)), (15, .int .i64 (i : Nat))])
    (fun i w' => i ≤ l.length ∧ Ex w w' ∧ stepsC r (l.take i) = 0 ∧ ∃ gc', Rep w' pc (runA r (l.take i)) mc gc' ∧ ∀ b ∈ foot pc mc gc', w.heap.size ≤ b) (fun i => l.length - i) 0 (by repeat (first | exact trivial | refine ⟨rfl, ?_⟩)) ⟨Nat.zero_le _, hx1, rfl, gc, hC, hCn⟩ ?_
  rintro i w2 ⟨hi, hx2, hst, gc', hC2, hCn2⟩
  unfold pB
  (repeat (first | refine lw_pure hT rfl ?_ | refine lw_nil ?_ | refine cw_seq ?_ | refine cw_region ?_ | refine qw_then ?_))
  refine cw_cond rfl (fun e => ?_) (fun e => ?_)
  · have hlt : i < l.length := by have := of_decide_eq_true e; omega
    obtain ⟨fv, hrd, hstep⟩ := hrow i hlt
    obtain ⟨f, c, rfl, hf, hret⟩ := step_call (hstep.ex hx2) hC2 (good i hi).nd (hok _ (List.getElem_mem hlt)).2
    (repeat (first | refine cw_seq ?_ | refine cw_region ?_ | refine qw_then ?_ | refine cw_skip ?_ | refine cw_block ?_))
    refine lw_index hT rfl rfl rfl i rfl hlt ?_
    skip
    refine lw_load hT rfl rfl (v := .func (.func f) ⟨[]⟩ ⟨c⟩) ((hrd.ex hx2) 0 _ rfl) ?_
    (repeat (first | refine lw_pure hT rfl ?_ | refine lw_nil ?_ | refine cw_seq ?_ | refine cw_region ?_ | refine qw_then ?_))
    refine lw_call_fn hT rfl hf rfl hret ?_
    rintro _ w3 ⟨rfl, hm⟩
    have hx3 : Ex w w3 := hx2.up_new hm.ext hCn2
    (repeat (first | refine lw_pure hT rfl ?_ | refine lw_nil ?_ | refine cw_seq ?_ | refine cw_region ?_ | refine qw_then ?_))
    refine cw_cond rfl (fun e => ?_) (fun e => ?_)
    · have hne : actC (runA r (l.take i)) l[i] ≠ 0 := by simpa using e
      have hs := stepsC_at hlt hst hne
      (repeat (first | refine lw_pure hT rfl ?_ | refine lw_nil ?_ | refine cw_seq ?_ | refine cw_region ?_ | refine qw_then ?_ | refine cw_ret ?_ | refine qw_then_ret ?_ | refine qw_block_ret ?_))
      refine qw_ret rfl ⟨by rw [hs]; rfl, ?_⟩
      have e2 : stepsR r l = r := by unfold stepsR; rw [if_neg (by rw [hs]; exact hne)]
      rw [e2]
      exact Mut.of_ex hR hx3
    · have heq : actC (runA r (l.take i)) l[i] = 0 := by simpa using e
      obtain ⟨gc3, hC3, hf3⟩ := hm.is
      (repeat (first | (refine lw_add rfl rfl ?_ ?_ ?_; iterate 2 omega) | refine lw_pure hT rfl ?_ | refine lw_nil ?_ | refine cw_region ?_ | refine qw_then ?_ | refine cw_skip ?_ | refine qw_block ?_))
      refine qw_round (i + 1) (by repeat (first | exact trivial | refine ⟨rfl, ?_⟩)) ⟨hlt, hx3, stepsC_take hlt hst heq, gc3, by rw [runA_take hlt]; exact hC3, fun b hb => ?_⟩ (by omega)
      rcases hf3 b hb with h | h
      · exact hCn2 b h
      · have := hx2.size; omega
  · have hil : i = l.length := by have := of_decide_eq_false e; omega
    subst hil
    rw [List.take_length] at hst
    (repeat (first | refine lw_pure hT rfl ?_ | refine lw_nil ?_ | refine cw_seq ?_ | refine cw_region ?_ | refine qw_then ?_ | refine cw_block ?_ | refine cw_exit ?_ | refine qw_block_exit ?_ | refine qw_then_exit ?_))
    refine cw_loop (fun i : Nat => [(0, pB p), (1, .slice (some ⟨b, o, none⟩) l.length cap), (26, .slice (some ⟨b, o, none⟩) l.length cap), (27, .int .i64 (l.length : Nat)), (28, .int .i64 (i : Nat))])
      (fun i w' => i ≤ l.length ∧ Mut w2 p m gs (runA r (l.take i)) w') (fun i => l.length - i) 0 (by repeat (first | exact trivial | refine ⟨rfl, ?_⟩)) ⟨Nat.zero_le _, Mut.of_ex (hR.ex hx2) (Ext.refl _ _)⟩ ?_
    rintro j w3 ⟨hj, hm⟩
    obtain ⟨gs3, hR3, hf3⟩ := hm.is
    unfold pB
    (repeat (first | refine lw_pure hT rfl ?_ | refine lw_nil ?_ | refine cw_seq ?_ | refine cw_region ?_ | refine qw_then ?_))
    refine cw_cond rfl (fun e => ?_) (fun e => ?_)
    · have hlt : j < l.length := by have := of_decide_eq_true e; omega
      obtain ⟨fv, hrd, hstep⟩ := hrow j hlt
      obtain ⟨f, c, rfl, hf, hret⟩ := step_call ((hstep.ex hx2).ext hm.ext (fun b hb => (hdis b hb).1)) hR3 (good j hj).nd (hok _ (List.getElem_mem hlt)).2
      (repeat (first | refine cw_seq ?_ | refine cw_region ?_ | refine qw_then ?_ | refine cw_skip ?_ | refine cw_block ?_))
      refine lw_index hT rfl rfl rfl j rfl hlt ?_
      skip
      refine lw_load hT rfl rfl (v := .func (.func f) ⟨[]⟩ ⟨c⟩) (((hrd.ex hx2).ext hm.ext (hdis b hAb).1) 0 _ rfl) ?_
      (repeat (first | refine lw_pure hT rfl ?_ | refine lw_nil ?_ | refine cw_region ?_ | refine qw_then ?_))
      refine lw_call_fn hT rfl hf rfl hret ?_
      rintro _ w4 ⟨rfl, hm4⟩
      (repeat (first | (refine lw_add rfl rfl ?_ ?_ ?_; iterate 2 omega) | refine lw_pure hT rfl ?_ | refine lw_nil ?_ | refine cw_region ?_ | refine qw_then ?_ | refine qw_block ?_))
      exact qw_round (j + 1) (by repeat (first | exact trivial | refine ⟨rfl, ?_⟩)) ⟨hlt, by rw [runA_take hlt]; exact Mut.step hf3 hm.ext hm4⟩ (by omega)
    · have hjl : j = l.length := by have := of_decide_eq_false e; omega
      subst hjl
      rw [List.take_length] at hm
      (repeat (first | refine lw_pure hT rfl ?_ | refine lw_nil ?_ | refine cw_seq ?_ | refine cw_region ?_ | refine qw_then ?_ | refine cw_ret ?_ | refine cw_exit ?_ | refine qw_block_exit ?_ | refine qw_then_exit ?_))
      refine qw_ret rfl ⟨by rw [hst]; rfl, ?_⟩
      have e2 : stepsR r l = runA r l := by unfold stepsR; rw [if_pos hst]
      rw [e2]
      exact Mut.step (w' := w2) (fun b hb => .inl hb) (Ext.of_ex hx2) hm
end Go.Proofs.YtnglkhnfmbnfeaaGreat
namespace Go.Proofs.YtnglkhnfmbnfeaaGreat
open Go Go.SK
def NewIn (N : Nat) (w' : World) (b : Nat) : Prop := N ≤ b ∧ b < w'.heap.size
theorem RetAt.mono {A B : Nat → Prop} {w : World} {v : Value} {a : ActD} (h : RetAt A w v a) (hAB : ∀ b, A b → B b) : RetAt B w v a := by
  obtain ⟨b1, b2, b3, h1, h2, h3, h4, h5⟩ := h.is
  exact ⟨⟨b1, b2, b3, h1, hAB _ h2, hAB _ h3, hAB _ h4, h5⟩, h.kind⟩
theorem Sl.up {A B : Nat → Prop} {w : World} {v : Value} {size : Nat} {rows : List (List Value)} (h : Sl A w v size rows) (hAB : ∀ b, A b → B b) : Sl B w v size rows := by
  obtain ⟨a, cap, hv, hz, hr⟩ := h.is
  exact ⟨⟨a, cap, hv, hz, fun hne => by obtain ⟨b, o, ha, hb, hrd⟩ := hr hne; exact ⟨b, o, ha, hAB b hb, hrd⟩⟩, h.small⟩
theorem IssAt.mono {A B : Nat → Prop} {w : World} {v : Value} {a : ActD} (h : IssAt A w v a) (hAB : ∀ b, A b → B b) : IssAt B w v a := by
  obtain ⟨b1, b2, vb, vp, h1, h2, h3, h4, h5, h6, h7⟩ := h.is
  exact ⟨⟨b1, b2, vb, vp, h1, hAB _ h2, hAB _ h3, h4, Sl.up h5 hAB, Sl.up h6 hAB, h7⟩, h.kind⟩
theorem StepAt.mono {A B : Nat → Prop} {w : World} {v : Value} {a : ActD} (h : StepAt A w v a) (hAB : ∀ b, A b → B b) : StepAt B w v a := by
  rcases h with h | h
  · exact .inl (h.mono hAB)
  · exact .inr (h.mono hAB)
theorem spl_retire (bill by_ : ByteArray) (day : Int) (w : World) : Ret Tryz.prog 43 [.string bill, .string by_, .int .i64 day] w fun v w' => RetAt (NewIn w.heap.size w') w' v (retiA bill by_ day) ∧ v.oneCell' = true ∧ Ex w w' := by
  refine ret_of Tryz.func43 Tryz.ntmps43 rfl rfl rfl ?_
  (repeat (first | refine cw_seq ?_ | refine cw_region ?_))
  refine lw_box rfl ?_
  intro b1 w1 hbb1 hb1 hx1 hs1
  replace hb1 : Blk w1 b1 [.string bill] 9 := hb1
  skip
  refine lw_box rfl ?_
  intro b2 w2 hbb2 hb2 hx2 hs2
  replace hb2 : Blk w2 b2 [.string by_] 9 := hb2
  skip
  refine lw_box rfl ?_
  intro b3 w3 hbb3 hb3 hx3 hs3
  replace hb3 : Blk w3 b3 [.int .i64 day] 3 := hb3
  (repeat (first | refine lw_pure hT rfl ?_ | refine lw_nil ?_ | refine cw_seq ?_ | refine cw_region ?_ | refine qw_then ?_ | refine cw_ret ?_))
  exact qw_ret rfl ⟨⟨⟨b1, b2, b3, rfl, ⟨by omega, by omega⟩, ⟨by omega, by omega⟩, ⟨by omega, by omega⟩, (hb1.ex hx2).ex hx3, hb2.ex hx3, hb3⟩, rfl⟩, rfl, (hx1.trans hx2).trans hx3⟩
theorem spl_issue {A : Nat → Prop} {b : BillD} {vb vp : Value} (holder : ByteArray) (w : World) (hB : SlS A w vb b.boxes) (hP : SlS A w vp b.parents) : Ret Tryz.prog 44 [.agg ⟨encB b vb vp⟩, .string holder] w fun v w' => IssAt (fun x => A x ∨ NewIn w.heap.size w' x) w' v (issA b holder) ∧ v.oneCell' = true ∧ Ex w w' := by
  refine ret_of Tryz.func44 Tryz.ntmps44 rfl rfl rfl ?_
  (repeat (first | refine cw_seq ?_ | refine cw_region ?_))
  refine lw_box rfl ?_
  intro b1 w1 hbb1 hb1 hx1 hs1
  replace hb1 : Blk w1 b1 (encB b vb vp) 33 := hb1
  skip
  refine lw_box rfl ?_
  intro b2 w2 hbb2 hb2 hx2 hs2
  replace hb2 : Blk w2 b2 [.string holder] 9 := hb2
  have hx02 := hx1.trans hx2
  (repeat (first | refine lw_pure hT rfl ?_ | refine lw_nil ?_ | refine cw_seq ?_ | refine cw_region ?_ | refine qw_then ?_ | refine cw_ret ?_))
  exact qw_ret rfl ⟨⟨⟨b1, b2, vb, vp, rfl, .inr ⟨by omega, by omega⟩, .inr ⟨by omega, by omega⟩, hb1.ex hx2, Sl.up (hB.ex hx02) fun _ h => .inl h, Sl.up (hP.ex hx02) fun _ h => .inl h, hb2⟩, rfl⟩, rfl, hx02⟩
theorem spl_next {b : BillD} {vb vp : Value} (number : ByteArray) (day : Int) (boxes parents : List ByteArray) {a1 a2 : Option Addr} {n1 n2 c1 c2 : Nat} (w : World) : Ret Tryz.prog 45 [.agg ⟨encB b vb vp⟩, .string number, .slice a1 n1 c1, .int .i64 day, .slice a2 n2 c2] w fun v w' => v = .agg ⟨encB (nextB b number boxes parents day) (.slice a1 n1 c1) (.slice a2 n2 c2)⟩ ∧ Ex w w' := by
  refine ret_of Tryz.func45 Tryz.ntmps45 rfl rfl rfl ?_
  (repeat (first | refine cw_seq ?_ | refine cw_region ?_))
  refine lw_box rfl ?_
  intro b5 w1 hbb1 hb1 hx1 hs1
  replace hb1 : Blk w1 b5 (encB b vb vp) 33 := hb1
  skip
  refine lw_alloc z33 ?_
  intro b10 w2 hbb2 hb2 hx2 hs2
  have hb12 := hb1.ex hx2
  (repeat (first | refine lw_pure hT rfl ?_ | refine lw_nil ?_ | refine cw_seq ?_ | refine cw_region ?_ | refine qw_then ?_))
  refine lw_load hT rfl rfl (v := .string b.carrier) (hb12.cell 1) ?_
  (repeat (refine lw_pure hT rfl ?_))
  refine lw_load hT rfl rfl (v := .string b.shipper) (hb12.cell 2) ?_
  (repeat (refine lw_pure hT rfl ?_))
  refine lw_load hT rfl rfl (v := .string b.frm) (hb12.cell 3) ?_
  (repeat (refine lw_pure hT rfl ?_))
  refine lw_load hT rfl rfl (v := .string b.to_) (hb12.cell 4) ?_
  (repeat (refine lw_pure hT rfl ?_))
  refine lw_load hT rfl rfl (v := .bool b.clean) (hb12.cell 8) ?_
  skip
  refine lw_build bt33 rfl ?_
  skip
  refine lw_store_agg hT rfl rfl rfl rfl (encB_one (A := fun _ => True) (w := w) (b := nextB b number boxes parents day) rfl rfl) hb2 (show (9 : Nat) ≤ 9 by decide) ?_
  intro w3 hb23 hx3 hs3
  replace hb23 : Blk w3 b10 (encB (nextB b number boxes parents day) (.slice a1 n1 c1) (.slice a2 n2 c2)) 33 := hb23
  (repeat (first | refine lw_nil ?_ | refine qw_then ?_ | refine cw_ret ?_))
  exact qw_ret_cell hT rfl rfl rfl rfl (vs := encB (nextB b number boxes parents day) (.slice a1 n1 c1) (.slice a2 n2 c2)) (hb23.rd 0 9) rfl ⟨rfl, hx1.trans (hx2.up_new hx3 (fun i h => by omega))⟩
end Go.Proofs.YtnglkhnfmbnfeaaGreat
namespace Go.Proofs.YtnglkhnfmbnfeaaGreat
open Go Go.SK
theorem own_slice0 {w : World} {base e size n : Nat} {v : Value} {xs : List Value} (h : w.ownsRow base e size v n xs) : ∃ a cap, v = .slice a n cap := by
  rcases h.2 with ⟨rfl, h0⟩ | ⟨g, cap, cur, rfl, _⟩
  · subst h0; exact ⟨none, 0, rfl⟩
  · exact ⟨_, cap, rfl⟩
end Go.Proofs.YtnglkhnfmbnfeaaGreat
namespace Go.Proofs.YtnglkhnfmbnfeaaGreat
open Go Go.SK
theorem StepAt_ret {A : Nat → Prop} {w w' : World} {v : Value} {a : ActD} (h : RetAt A w v a) (hx : Ex w w') : RetAt A w' v a := by
  obtain ⟨b1, b2, b3, h1, h2, h3, h4, h5, h6, h7⟩ := h.is
  exact ⟨⟨b1, b2, b3, h1, h2, h3, h4, h5.ex hx, h6.ex hx, h7.ex hx⟩, h.kind⟩
theorem StepAt_iss {A : Nat → Prop} {w w' : World} {v : Value} {a : ActD} (h : IssAt A w v a) (hx : Ex w w') : IssAt A w' v a := by
  obtain ⟨b1, b2, vb, vp, h1, h2, h3, h4, h5, h6, h7⟩ := h.is
  exact ⟨⟨b1, b2, vb, vp, h1, h2, h3, h4.ex hx, h5.ex hx, h6.ex hx, h7.ex hx⟩, h.kind⟩
theorem retiA_ok {bill by_ : ByteArray} {day : Int} (h1 : bill.size ≤ maxLen) (h2 : by_.size ≤ maxLen) : StepOk (retiA bill by_ day) := ⟨.inr rfl, ⟨h1, h2, Nat.zero_le _, zeroB_ok⟩⟩
theorem issA_ok {b : BillD} {holder : ByteArray} (h1 : b.Ok) (h2 : holder.size ≤ maxLen) : StepOk (issA b holder) := ⟨.inl rfl, ⟨Nat.zero_le _, Nat.zero_le _, h2, h1⟩⟩
theorem nextB_ok {b : BillD} {number : ByteArray} {boxes parents : List ByteArray} {day : Int} (h : b.Ok) (h1 : number.size ≤ maxLen) (h2 : ∀ x ∈ boxes, x.size ≤ maxLen) (h3 : ∀ x ∈ parents, x.size ≤ maxLen) : (nextB b number boxes parents day).Ok := ⟨h1, h.carrier, h.shipper, h.frm, h.to_, h2, h3⟩
set_option maxHeartbeats 2000000 in
theorem spl_Switch {w : World} {p m k : Nat} {r : RegD} {gs : List GhostE} (hR : Rep w p r m gs) (hG : Good k r) (hk : k + 2 ≤ 1000000) (bill by_ number shipper frm : ByteArray) (day : Int) (h1 : bill.size ≤ maxLen) (h2 : by_.size ≤ maxLen) (h3 : number.size ≤ maxLen) (h4 : shipper.size ≤ maxLen) (h5 : frm.size ≤ maxLen) :
    Ret Tryz.prog 22 [.pointer (some ⟨p, 0, none⟩), .string bill, .string by_, .string number, .string shipper, .string frm, .int .i64 day] w fun u w' => u = .int .i64 (callC r (switchC r bill by_ number shipper frm day)) ∧ Mut w p m gs (callR r (switchC r bill by_ number shipper frm day)) w' := by
  have hfl : ∀ b ∈ foot p m gs, b < w.heap.size := fun b hb => hR.foot_lt hb
  refine ret_of Tryz.func22 Tryz.ntmps22 rfl rfl rfl ?_
  (repeat (first | refine lw_pure hT rfl ?_ | refine lw_nil ?_ | refine cw_seq ?_ | refine cw_region ?_ | refine qw_then ?_))
  refine lw_call hT rfl rfl (reg_Get hR (hG.small (by omega)) bill) ?_
  rintro _ w1 ⟨hget, hx1⟩
  unfold GetR at hget
  cases hat : r.at? bill with
  | none =>
    rw [hat] at hget
    dsimp only at hget
    subst hget
    have e1 : switchC r bill by_ number shipper frm day = (4, []) := by unfold switchC; rw [hat]
    rw [show callC r (switchC r bill by_ number shipper frm day) = 4 from by rw [e1]; rfl, show callR r (switchC r bill by_ number shipper frm day) = r from by rw [e1]; rfl]
    (repeat (refine lw_pure hT rfl ?_))
    refine lw_alloc z33 ?_
    intro b15 w2 hbb2 hb2 hx2 hs2
    skip
    refine lw_store_agg hT rfl rfl rfl rfl (encB_one (A := fun _ => True) (w := w) rfl rfl) hb2 (show (9 : Nat) ≤ 9 by decide) ?_
    intro w3 hb3 hx3 hs3
    have hx13 : Ex w1 w3 := hx2.up_new hx3 (fun i h => by omega)
    (repeat (first | refine lw_pure hT rfl ?_ | refine lw_nil ?_ | refine cw_seq ?_ | refine cw_region ?_ | refine qw_then ?_ | refine cw_ret ?_ | refine qw_then_ret ?_ | (refine cw_cond_t rfl ?_ ?_; focus with_reducible (first | rfl | exact Bool.not_false | exact Bool.not_true))))
    exact qw_ret rfl ⟨rfl, Mut.of_ex hR (hx1.trans hx13)⟩
  | some x =>
    rw [hat] at hget
    obtain ⟨ub, up, rfl, hub, hup⟩ := hget
    obtain ⟨b0, hb0⟩ : ∃ b0, b0 = { x.bill with shipper := shipper, frm := frm } := ⟨_, rfl⟩
    have e1 : switchC r bill by_ number shipper frm day = (0, [retiA bill by_ day, issA (nextB b0 number x.bill.boxes [bill] day) by_]) := by unfold switchC; rw [hat, hb0]
    rw [show callC r (switchC r bill by_ number shipper frm day) = stepsC r [retiA bill by_ day, issA (nextB b0 number x.bill.boxes [bill] day) by_] from by rw [e1]; rfl, show callR r (switchC r bill by_ number shipper frm day) = stepsR r [retiA bill by_ day, issA (nextB b0 number x.bill.boxes [bill] day) by_] from by rw [e1]; rfl]
    obtain ⟨a1, c1, rfl⟩ := own_slice0 hub
    obtain ⟨a2, c2, rfl⟩ := own_slice0 hup
    obtain ⟨hn, ix, hix⟩ := at_some hat
    have hxok := (hG.ent x (List.mem_of_getElem? hix)).ok
    have hbm := (may_len (hG.ent x (List.mem_of_getElem? hix)).may).1
    (repeat (refine lw_pure hT rfl ?_))
    refine lw_alloc z33 ?_
    intro b15 w2 hbb2 hb2 hx2 hs2
    skip
    refine lw_store_agg hT rfl rfl rfl rfl (encB_one (A := fun _ => True) (w := w) rfl rfl) hb2 (show (9 : Nat) ≤ 9 by decide) ?_
    intro w3 hb3 hx3 hs3
    (repeat (first | refine lw_pure hT rfl ?_ | refine lw_nil ?_ | refine cw_seq ?_ | refine cw_region ?_ | refine qw_then ?_ | refine cw_skip ?_ | (refine cw_cond_f rfl ?_ ?_; focus with_reducible (first | rfl | exact Bool.not_false | exact Bool.not_true))))
    refine lw_store (size := 1) hT rfl rfl rfl rfl hb3 (show (2 : Nat) < 9 by decide) ?_
    intro w4 hb4 hx4 hs4
    (repeat (refine lw_pure hT rfl ?_))
    refine lw_store (size := 1) hT rfl rfl rfl rfl hb4 (show (3 : Nat) < 9 by decide) ?_
    intro w5 hb5 hx5 hs5
    replace hb5 : Blk w5 b15 (encB b0 (.slice a1 x.bill.boxes.length c1) (.slice a2 x.bill.parents.length c2)) 33 := by rw [hb0]; exact hb5
    have hx15 : Ex w1 w5 := ((hx2.up_new hx3 (fun i h => by omega)).up_new hx4 (fun i h => by omega)).up_new hx5 (fun i h => by omega)
    have hx05 := hx1.trans hx15
    have hl1 := hx1.size
    have hl05 := hx05.size
    have hub5 := own_ex hub hx15
    have hbx : SlS (fun b => NewIn w.heap.size w5 b) w5 (.slice a1 x.bill.boxes.length c1) x.bill.boxes := sls_own hub5 fun b hb => own_base hub5 hb
    (repeat (first | refine lw_nil ?_ | refine cw_seq ?_ | refine qw_then ?_))
    refine cw_draw hM (fun w' => Ex w5 w') [16] rfl rfl (by repeat with_reducible (first | refine nop_then ?_ | refine nop_block ?_ | exact nop_body)) (fun w6 hx6 _ => ⟨hx6, ?_⟩)
    have hl6 := hx6.size
    (refine rw_takeP 0 rfl rfl (by kernel_rfl) (by kernel_rfl) (by kernel_rfl) (by kernel_rfl) rfl (yo_pure hT rfl) ?_; refine rw_takeP 1 rfl rfl (by kernel_rfl) (by kernel_rfl) (by kernel_rfl) (by kernel_rfl) rfl (yo_pure hT rfl) ?_; refine rw_takeP 2 rfl rfl (by kernel_rfl) (by kernel_rfl) (by kernel_rfl) (by kernel_rfl) rfl (yo_pure hT rfl) ?_; refine rw_takeP 3 rfl rfl (by kernel_rfl) (by kernel_rfl) (by kernel_rfl) (by kernel_rfl) rfl (yo_pure hT rfl) ?_)
    refine rw_take 5 rfl rfl (by kernel_rfl) (by kernel_rfl) (by kernel_rfl) (by kernel_rfl) rfl (yo_load_agg hT rfl rfl rfl (vs := encB b0 (.slice a1 x.bill.boxes.length c1) (.slice a2 x.bill.parents.length c2)) (fun w' hS => (hb5.ex hS).rd 0 9)) ?_
    (refine rw_takeP 6 rfl rfl (by kernel_rfl) (by kernel_rfl) (by kernel_rfl) (by kernel_rfl) rfl (yo_pure hT rfl) ?_; refine rw_takeP 7 rfl rfl (by kernel_rfl) (by kernel_rfl) (by kernel_rfl) (by kernel_rfl) rfl (yo_pure hT rfl) ?_)
    refine rw_take 8 rfl rfl (by kernel_rfl) (by kernel_rfl) (by kernel_rfl) (by kernel_rfl) rfl (yo_load hT rfl rfl (v := .slice a1 x.bill.boxes.length c1) (fun w' hS => (hb5.ex hS).cell 5)) ?_
    (refine rw_takeP 9 rfl rfl (by kernel_rfl) (by kernel_rfl) (by kernel_rfl) (by kernel_rfl) rfl (yo_pure hT rfl) ?_; refine rw_takeP 10 rfl rfl (by kernel_rfl) (by kernel_rfl) (by kernel_rfl) (by kernel_rfl) rfl (yo_pure hT rfl) ?_; refine rw_takeP 13 rfl rfl (by kernel_rfl) (by kernel_rfl) (by kernel_rfl) (by kernel_rfl) rfl (yo_pure hT rfl) ?_)
    refine rw_two 4 11 rfl rfl (by kernel_rfl) rfl rfl (fun hcl => ?_) (fun hcl => ?_)
    · refine lw_call hT rfl rfl (spl_retire bill by_ day w6) ?_
      rintro fv1 w7 ⟨hf1, ho1, hx7⟩
      have hx57 := hx6.trans hx7
      have hl7 := hx7.size
      (repeat (refine lw_nil ?_))
      refine qw_rw (by repeat with_reducible (first | refine nop_then ?_ | refine nop_block ?_ | exact nop_body)) hcl (fun _ => hx57) ?_
      refine rw_one 11 rfl (by kernel_rfl) rfl (fun hcl => ?_)
      refine lw_buildSlice sl31 rfl rfl rfl ?_
      intro bs w8 hbbs hbs hx8 hss
      have hx58 := hx57.trans hx8
      have hl8 := hx8.size
      (repeat (refine lw_nil ?_))
      refine qw_rw (by repeat with_reducible (first | refine nop_then ?_ | refine nop_block ?_ | exact nop_body)) hcl (fun _ => hx58) ?_
      have hpar : SlS (fun b => NewIn w.heap.size w8 b) w8 (.slice (some ⟨bs, 0, none⟩) 1 1) [bill] := Sl.of_rd (rows := [[.string bill]]) ⟨by omega, by omega⟩ (by simp) (hbs.rd 0 1) (show (1 : Nat) ≤ maxLen by decide)
      have hstep1 : RetAt (NewIn w.heap.size w8) w8 fv1 (retiA bill by_ day) := (StepAt_ret hf1 hx8).mono fun b hb => ⟨by have := hb.1; omega, by have := hb.2; omega⟩
      refine rw_one 12 rfl (by kernel_rfl) rfl (fun hcl => ?_)
      refine lw_call hT rfl rfl (spl_next (b := b0) number day x.bill.boxes [bill] w8) ?_
      rintro _ w9 ⟨rfl, hx9⟩
      have hx59 := hx58.trans hx9
      have hl9 := hx9.size
      (repeat (refine lw_nil ?_))
      refine qw_rw (by repeat with_reducible (first | refine nop_then ?_ | refine nop_block ?_ | exact nop_body)) hcl (fun _ => hx59) ?_
      refine rw_one 14 rfl (by kernel_rfl) rfl (fun hcl => ?_)
      have hbx9 : SlS (NewIn w.heap.size w9) w9 (.slice a1 x.bill.boxes.length c1) (nextB b0 number x.bill.boxes [bill] day).boxes := Sl.up (hbx.ex hx59) fun b hb => ⟨hb.1, by have := hb.2; omega⟩
      have hpar9 : SlS (NewIn w.heap.size w9) w9 (.slice (some ⟨bs, 0, none⟩) 1 1) (nextB b0 number x.bill.boxes [bill] day).parents := Sl.up (hpar.ex hx9) fun b hb => ⟨hb.1, by have := hb.2; omega⟩
      refine lw_call hT rfl rfl (spl_issue by_ w9 hbx9 hpar9) ?_
      rintro fv2 w10 ⟨hf2, ho2, hx10⟩
      have hx510 := hx59.trans hx10
      have hl10 := hx10.size
      obtain ⟨q1, q2, q3, e1, _⟩ := hstep1.is
      obtain ⟨q4, q5, _, _, e2, _⟩ := hf2.is
      subst e1
      subst e2
      (repeat (refine lw_nil ?_))
      refine qw_rw (by repeat with_reducible (first | refine nop_then ?_ | refine nop_block ?_ | exact nop_body)) hcl (fun _ => hx510) ?_
      refine rw_one 15 rfl (by kernel_rfl) rfl (fun hcl => ?_)
      refine lw_buildSlice sl98 rfl rfl rfl ?_
      intro bq w11 hbbq hbq hx11 hsq
      have hx511 := hx510.trans hx11
      have hl11 := hx11.size
      (repeat (refine lw_nil ?_))
      refine qw_rw (by repeat with_reducible (first | refine nop_then ?_ | refine nop_block ?_ | exact nop_body)) hcl (fun _ => hx511) ?_
      refine rw_one 16 rfl (by kernel_rfl) rfl (fun hcl => ?_)
      have hb0ok : b0.Ok := by rw [hb0]; exact ⟨hxok.number, hxok.carrier, h4, h5, hxok.to_, hxok.boxes, hxok.parents⟩
      have hsteps : StepsAt (NewIn w.heap.size w11) w11 (.slice (some ⟨bq, 0, none⟩) 2 2) [retiA bill by_ day, issA (nextB b0 number x.bill.boxes [bill] day) by_] := by
        refine ⟨⟨bq, 0, 2, rfl, ⟨by omega, by omega⟩, fun i hi => ?_⟩, show (2 : Nat) ≤ 65 by decide⟩
        match i, hi with
        | 0, _ => exact ⟨_, hbq.rd 0 1, .inl (((StepAt_ret (StepAt_ret (StepAt_ret hstep1 hx9) hx10) hx11)).mono fun b hb => ⟨hb.1, by have := hb.2; omega⟩)⟩
        | 1, _ => exact ⟨_, hbq.rd 1 1, .inr ((StepAt_iss hf2 hx11).mono fun b hb => by rcases hb with hb | hb <;> exact ⟨by have := hb.1; omega, by have := hb.2; omega⟩)⟩
      refine lw_call hT rfl rfl (spl_do ((hR.ex hx05).ex hx511) hG (l := [retiA bill by_ day, issA (nextB b0 number x.bill.boxes [bill] day) by_]) hk hsteps (fun a ha => ?_) (fun b hb => ⟨fun h => by have := hfl b h; have := hb.1; omega, hb.2⟩)) ?_
      · simp only [List.mem_cons, List.not_mem_nil, or_false] at ha
        rcases ha with rfl | rfl
        · exact retiA_ok h1 h2
        · exact issA_ok (nextB_ok hb0ok h3 hxok.boxes (by intro y hy; rw [List.mem_singleton.1 hy]; exact h1)) h2
      rintro _ w12 ⟨rfl, hm⟩
      (repeat (refine lw_nil ?_))
      refine qw_rw (by repeat with_reducible (first | refine nop_then ?_ | refine nop_block ?_ | exact nop_body)) hcl (fun h => absurd h (by decide)) ?_
      (refine rw_takeP 17 rfl rfl (by kernel_rfl) (by kernel_rfl) (by kernel_rfl) (by kernel_rfl) rfl (yo_pure hT rfl) ?_)
      refine rw_done (by kernel_rfl) ?_
      (repeat (first | refine qw_then ?_ | refine cw_ret ?_))
      exact qw_ret rfl ⟨rfl, Mut.step (fun b hb => .inl hb) (Ext.of_ex (hx05.trans hx511)) hm⟩
    · refine lw_buildSlice sl31 rfl rfl rfl ?_
      intro bs w7 hbbs hbs hx7 hss
      have hx57 := hx6.trans hx7
      have hl7 := hx7.size
      (repeat (refine lw_nil ?_))
      refine qw_rw (by repeat with_reducible (first | refine nop_then ?_ | refine nop_block ?_ | exact nop_body)) hcl (fun _ => hx57) ?_
      refine rw_one 4 rfl (by kernel_rfl) rfl (fun hcl => ?_)
      refine lw_call hT rfl rfl (spl_retire bill by_ day w7) ?_
      rintro fv1 w8 ⟨hf1, ho1, hx8⟩
      have hx58 := hx57.trans hx8
      have hl8 := hx8.size
      (repeat (refine lw_nil ?_))
      refine qw_rw (by repeat with_reducible (first | refine nop_then ?_ | refine nop_block ?_ | exact nop_body)) hcl (fun _ => hx58) ?_
      have hpar : SlS (fun b => NewIn w.heap.size w8 b) w8 (.slice (some ⟨bs, 0, none⟩) 1 1) [bill] := Sl.of_rd (rows := [[.string bill]]) ⟨by omega, by omega⟩ (by simp) ((hbs.ex hx8).rd 0 1) (show (1 : Nat) ≤ maxLen by decide)
      have hstep1 : RetAt (NewIn w.heap.size w8) w8 fv1 (retiA bill by_ day) := hf1.mono fun b hb => ⟨by have := hb.1; omega, hb.2⟩
      refine rw_one 12 rfl (by kernel_rfl) rfl (fun hcl => ?_)
      refine lw_call hT rfl rfl (spl_next (b := b0) number day x.bill.boxes [bill] w8) ?_
      rintro _ w9 ⟨rfl, hx9⟩
      have hx59 := hx58.trans hx9
      have hl9 := hx9.size
      (repeat (refine lw_nil ?_))
      refine qw_rw (by repeat with_reducible (first | refine nop_then ?_ | refine nop_block ?_ | exact nop_body)) hcl (fun _ => hx59) ?_
      refine rw_one 14 rfl (by kernel_rfl) rfl (fun hcl => ?_)
      have hbx9 : SlS (NewIn w.heap.size w9) w9 (.slice a1 x.bill.boxes.length c1) (nextB b0 number x.bill.boxes [bill] day).boxes := Sl.up (hbx.ex hx59) fun b hb => ⟨hb.1, by have := hb.2; omega⟩
      have hpar9 : SlS (NewIn w.heap.size w9) w9 (.slice (some ⟨bs, 0, none⟩) 1 1) (nextB b0 number x.bill.boxes [bill] day).parents := Sl.up (hpar.ex hx9) fun b hb => ⟨hb.1, by have := hb.2; omega⟩
      refine lw_call hT rfl rfl (spl_issue by_ w9 hbx9 hpar9) ?_
      rintro fv2 w10 ⟨hf2, ho2, hx10⟩
      have hx510 := hx59.trans hx10
      have hl10 := hx10.size
      obtain ⟨q1, q2, q3, e1, _⟩ := hstep1.is
      obtain ⟨q4, q5, _, _, e2, _⟩ := hf2.is
      subst e1
      subst e2
      (repeat (refine lw_nil ?_))
      refine qw_rw (by repeat with_reducible (first | refine nop_then ?_ | refine nop_block ?_ | exact nop_body)) hcl (fun _ => hx510) ?_
      refine rw_one 15 rfl (by kernel_rfl) rfl (fun hcl => ?_)
      refine lw_buildSlice sl98 rfl rfl rfl ?_
      intro bq w11 hbbq hbq hx11 hsq
      have hx511 := hx510.trans hx11
      have hl11 := hx11.size
      (repeat (refine lw_nil ?_))
      refine qw_rw (by repeat with_reducible (first | refine nop_then ?_ | refine nop_block ?_ | exact nop_body)) hcl (fun _ => hx511) ?_
      refine rw_one 16 rfl (by kernel_rfl) rfl (fun hcl => ?_)
      have hb0ok : b0.Ok := by rw [hb0]; exact ⟨hxok.number, hxok.carrier, h4, h5, hxok.to_, hxok.boxes, hxok.parents⟩
      have hsteps : StepsAt (NewIn w.heap.size w11) w11 (.slice (some ⟨bq, 0, none⟩) 2 2) [retiA bill by_ day, issA (nextB b0 number x.bill.boxes [bill] day) by_] := by
        refine ⟨⟨bq, 0, 2, rfl, ⟨by omega, by omega⟩, fun i hi => ?_⟩, show (2 : Nat) ≤ 65 by decide⟩
        match i, hi with
        | 0, _ => exact ⟨_, hbq.rd 0 1, .inl (((StepAt_ret (StepAt_ret (StepAt_ret hstep1 hx9) hx10) hx11)).mono fun b hb => ⟨hb.1, by have := hb.2; omega⟩)⟩
        | 1, _ => exact ⟨_, hbq.rd 1 1, .inr ((StepAt_iss hf2 hx11).mono fun b hb => by rcases hb with hb | hb <;> exact ⟨by have := hb.1; omega, by have := hb.2; omega⟩)⟩
      refine lw_call hT rfl rfl (spl_do ((hR.ex hx05).ex hx511) hG (l := [retiA bill by_ day, issA (nextB b0 number x.bill.boxes [bill] day) by_]) hk hsteps (fun a ha => ?_) (fun b hb => ⟨fun h => by have := hfl b h; have := hb.1; omega, hb.2⟩)) ?_
      · simp only [List.mem_cons, List.not_mem_nil, or_false] at ha
        rcases ha with rfl | rfl
        · exact retiA_ok h1 h2
        · exact issA_ok (nextB_ok hb0ok h3 hxok.boxes (by intro y hy; rw [List.mem_singleton.1 hy]; exact h1)) h2
      rintro _ w12 ⟨rfl, hm⟩
      (repeat (refine lw_nil ?_))
      refine qw_rw (by repeat with_reducible (first | refine nop_then ?_ | refine nop_block ?_ | exact nop_body)) hcl (fun h => absurd h (by decide)) ?_
      (refine rw_takeP 17 rfl rfl (by kernel_rfl) (by kernel_rfl) (by kernel_rfl) (by kernel_rfl) rfl (yo_pure hT rfl) ?_)
      refine rw_done (by kernel_rfl) ?_
      (repeat (first | refine qw_then ?_ | refine cw_ret ?_))
      exact qw_ret rfl ⟨rfl, Mut.step (fun b hb => .inl hb) (Ext.of_ex (hx05.trans hx511)) hm⟩
end Go.Proofs.YtnglkhnfmbnfeaaGreat
namespace Go.SK
open Go
attribute [local semireducible] CW LW QW Ret Kn
section
variable {P : Program} {T : Tab} {n : Nat} {fr : Fr} {w : World} {Q : Exit → Act → World → Prop} {ops : Array Oper} {rest : List Oper}
theorem findNow_at {k : ByteArray} : ∀ (ents : List MapEntry) (es : List (ByteArray × Value)) (i j : Nat) (u : Value), ents.map (fun e => (e.key, e.val)) = es.map (fun e => (Value.string e.1, e.2)) →
    Instr.findNow .string (.string k) ents i = some (some (j, u)) → ∃ q, j = i + q ∧ es[q]? = some (k, u)
  | [], [], i, j, u, _, h => by simp [Instr.findNow] at h
  | [], _ :: _, _, _, _, h, _ => by simp at h
  | _ :: _, [], _, _, _, h, _ => by simp at h
  | e :: ents, x :: es, i, j, u, h, hf => by
    simp only [List.map_cons, List.cons.injEq, Prod.mk.injEq] at h
    obtain ⟨⟨h1, h2⟩, h3⟩ := h
    have hb : (k == x.1) = decide (k = x.1) := by
      rw [Bool.eq_iff_iff, MapKept.bytes_beq]; simp
    simp only [Instr.findNow, h1, Instr.sameNow, hb] at hf
    by_cases hk : k = x.1
    · rw [decide_eq_true hk] at hf
      simp only [Option.some.injEq, Prod.mk.injEq] at hf
      obtain ⟨rfl, rfl⟩ := hf
      exact ⟨0, rfl, by rw [hk, h2]; rfl⟩
    · rw [decide_eq_false hk] at hf
      obtain ⟨q, g1, g2⟩ := findNow_at (k := k) ents es (i + 1) j u h3 hf
      exact ⟨q + 1, by omega, g2⟩
theorem run_mapUpdate_old {t e b : Nat} {z v u : Value} {es : List (ByteArray × Value)} {ks : ByteArray} (hM : MpT P t e z) (hm : Mp w b es) (hold : mget es ks = some u) :
    ∃ (q : Nat) (w1 : World), es[q]? = some (ks, u) ∧ (Instr.mapUpdate t (.map (some b)) (.string ks) v).run P w = .ok () w1 ∧ Mp w1 b (es.set q (ks, v)) ∧ Ext (· = b) w w1 ∧ w1.heap.size = w.heap.size := by
  obtain ⟨kt, hu, hkt, hz⟩ := hM
  obtain ⟨ents, clock, h1, h2, h3, h4⟩ := hm.is
  obtain ⟨r, g1, g2⟩ := findNow_mget (k := ks) ents.toList es 0 h2
  have hf := MapKept.run_findKey (P := P) (w := w) hkt g1
  rw [hold] at g2
  obtain ⟨⟨j, u'⟩, rfl, hu'⟩ := Option.map_eq_some_iff.1 g2
  have hu' : u' = u := hu'
  subst hu'
  obtain ⟨q, hj, hq⟩ := findNow_at ents.toList es 0 j u' h2 g1
  have hjq : j = q := by omega
  subst hjq
  have hck := fun em => MapKept.run_checkKey (P := P) (w := w) (k := .string ks) hkt trivial em 9999
  have hlt : j < es.length := (List.getElem?_eq_some_iff.1 hq).1
  have hle : ents.toList.length = es.length := by have := congrArg List.length h2; simpa using this
  have hkey : (ents[j]?).map (·.key) = some (.string ks) := by
    have := congrArg (·[j]?) h2
    simp only [List.getElem?_map, hq, Option.map_some] at this
    rw [← Array.getElem?_toList]
    cases he : ents.toList[j]? with
    | none => rw [he] at this; simp at this
    | some en => rw [he] at this; simp only [Option.map_some, Option.some.injEq, Prod.mk.injEq] at this; simp [this.1]
  have hst : (Instr.keyThatStays (.string ks) (.string ks)).run P w = .ok (.string ks) w := by
    have : Instr.sameBits 10000 (.string ks) (.string ks) = true := by
      show (ks == ks) = true
      rw [MapKept.bytes_beq]
    simp [Instr.keyThatStays, this]
  refine ⟨j, { w with heap := w.heap.setIfInBounds b (.map (ents.modify j fun e => { e with key := .string ks, val := v }) clock) }, hq, ?_, ⟨_, _, (MapKept.heap_set h1).1, ?_, ?_, ?_⟩, ⟨rfl, rfl, rfl, by simp, fun k _ hn => (MapKept.heap_set h1).2 k hn⟩, by simp⟩
  · simp only [Instr.mapUpdate, Sem.run_bind, run_underlying hu, Result.andThen_ok, MapKept.run_getObj_map h1, hck, hf, hkey, Option.getD_some, hst, MapKept.run_setObj_map _ h1]
  · apply List.ext_getElem?
    intro i
    have hi := congrArg (·[i]?) h2
    simp only [List.getElem?_map] at hi ⊢
    rw [Array.toList_modify, List.getElem?_modify, List.getElem?_set]
    by_cases hij : j = i
    · subst hij
      have hil : j < ents.toList.length := by omega
      simp [hlt, List.getElem?_eq_getElem hil]
    · simp only [if_neg hij]
      simpa using hi
  · rw [List.length_set, ← h3]
    apply List.ext_getElem?
    intro i
    simp only [List.getElem?_map]
    rw [Array.toList_modify, List.getElem?_modify]
    by_cases hij : j = i
    · subst hij
      have hil : j < ents.toList.length := by omega
      simp [List.getElem?_eq_getElem hil]
    · simp [hij]
  · simp [h4]
theorem lw_mapUpdate_old {t e b : Nat} {z v u0 : Value} {es : List (ByteArray × Value)} {ks : ByteArray} {x y u : Operand} {ty : TypeId} {ps : String} {af : Array Edge} (hM : MpT P t e z) (hx : ev n fr x = some (.map (some b))) (hy : ev n fr y = some (.string ks)) (hv : ev n fr u = some v)
    (hm : Mp w b es) (hold : mget es ks = some u0) (k : ∀ (q : Nat) w1, es[q]? = some (ks, u0) → Mp w1 b (es.set q (ks, v)) → Ext (· = b) w w1 → w1.heap.size = w.heap.size → LW P ops Q rest n fr w1) :
    LW P ops Q ({ dst := none, op := .mapUpdate t x y u, type := ty, pos := ps, after := af, guard := none } :: rest) n fr w := by
  obtain ⟨q, w1, g0, g1, g2, g3, g4⟩ := run_mapUpdate_old (P := P) (v := v) hM hm hold
  exact lw_run_skip rfl rfl (w' := w1) (fun a hk => by simp [execOp, ev_sound hk hx, ev_sound hk hy, ev_sound hk hv, g1]) (k q w1 g0 g2 g3 g4)
end
end Go.SK
namespace Go.Proofs.YtnglkhnfmbnfeaaGreat
open Go Go.SK
theorem perm_of_mem {a b : List ByteArray} (ha : a.Nodup) (hb : b.Nodup) (h : ∀ x, x ∈ a ↔ x ∈ b) : a.Perm b := by
  induction a generalizing b with
  | nil =>
    cases b with
    | nil => exact List.Perm.refl _
    | cons x b => have := (h x).2 (by simp); simp at this
  | cons x a ih =>
    obtain ⟨h1, h2⟩ := List.nodup_cons.1 ha
    obtain ⟨s, t, rfl⟩ := List.append_of_mem ((h x).1 (by simp))
    have hp : (s ++ x :: t).Perm (x :: (s ++ t)) := List.perm_middle
    have hn := (hp.nodup_iff).1 hb
    obtain ⟨h3, h4⟩ := List.nodup_cons.1 hn
    refine (List.Perm.cons x (ih h2 h4 fun y => ?_)).trans hp.symm
    have hy := h y
    rw [hp.mem_iff] at hy
    simp only [List.mem_cons] at hy
    constructor
    · intro hm
      rcases hy.1 (.inr hm) with rfl | h
      · exact absurd hm h1
      · exact h
    · intro hm
      rcases hy.2 (.inr hm) with rfl | h
      · exact absurd hm h3
      · exact h
theorem len_nodup {s l : List ByteArray} (hs : s.Nodup) (h : ∀ x, x ∈ s ↔ x ∈ l) : s.length = l.length ↔ l.Nodup := by
  constructor
  · intro hl
    exact (nodup_perm hs (fun x hx => (h x).1 hx) hl).nodup_iff.1 hs
  · intro hl
    exact (perm_of_mem hs hl h).length_eq
theorem seen_in {s : List ByteArray} {x : ByteArray} (hx : x ∈ s) : mget (s.map fun y => (y, Value.bool true)) x = some (.bool true) := by
  induction s with
  | nil => simp at hx
  | cons a s ih =>
    rw [List.map_cons, mget_cons]
    by_cases h : x = a
    · rw [if_pos h]
    · rw [if_neg h]
      rcases List.mem_cons.1 hx with h' | h'
      · exact absurd h' h
      · exact ih h'
theorem seen_not {s : List ByteArray} {x : ByteArray} (hx : x ∉ s) : mget (s.map fun y => (y, Value.bool true)) x = none := by
  induction s with
  | nil => rfl
  | cons a s ih =>
    rw [List.map_cons, mget_cons, if_neg (fun h => hx (by simp [h]))]
    exact ih fun h => hx (List.mem_cons_of_mem _ h)
theorem spl_unlike {A : Nat → Prop} {w : World} {v : Value} {l : List ByteArray} (hS : SlS A w v l) : Ret Tryz.prog 41 [v] w fun u w' => u = .bool (decide l.Nodup) ∧ Ex w w' := by
  obtain ⟨a, c, rfl, _, hr⟩ := hS.is
  have hsm := hS.small
  simp only [List.length_map] at *
  unfold maxLen at hsm
  refine ret_of Tryz.func41 Tryz.ntmps41 rfl rfl rfl ?_
  (repeat (first | refine lw_pure hT rfl ?_ | refine lw_nil ?_ | refine cw_seq ?_ | refine cw_region ?_ | refine qw_then ?_))
  refine lw_makeMap ?_
  intro b w1 hbb hm1 hx1 hs1
  (repeat (first | refine lw_pure hT rfl ?_ | refine lw_nil ?_ | refine cw_seq ?_ | refine cw_region ?_ | refine qw_then ?_ | refine cw_block ?_))
  refine cw_loop (fun i : Nat => [(0, .slice a l.length c), (3, .map (some b)), (7, .slice a l.length c), (8, .int .i64 (l.length : Nat)), (9, .int .i64 (i : Nat))])
    (fun i w' => i ≤ l.length ∧ Ex w w' ∧ ∃ s : List ByteArray, Mp w' b (s.map fun y => (y, Value.bool true)) ∧ s.Nodup ∧ ∀ x, x ∈ s ↔ x ∈ l.take i) (fun i => l.length - i) 0 (by repeat (first | exact trivial | refine ⟨rfl, ?_⟩)) ⟨Nat.zero_le _, hx1, [], hm1, List.nodup_nil, fun x => by simp⟩ ?_
  rintro i w2 ⟨hi, hx2, s, hm2, hsn, hmem⟩
  (repeat (first | refine lw_pure hT rfl ?_ | refine lw_nil ?_ | refine cw_seq ?_ | refine cw_region ?_ | refine qw_then ?_))
  refine cw_cond rfl (fun e => ?_) (fun e => ?_)
  · have hlt : i < l.length := by have := of_decide_eq_true e; omega
    have hne : l.map (fun s => [Value.string s]) ≠ [] := by intro e; simp at e; rw [e] at hlt; simp at hlt
    obtain ⟨bb, oo, rfl, _, hrd⟩ := hr hne
    have hri := (hrd i [.string l[i]] (by simp [hlt])).2.ex hx2
    obtain ⟨x, hx⟩ : ∃ x, x = l[i] := ⟨_, rfl⟩
    rw [← hx] at hri
    have etake : l.take (i + 1) = l.take i ++ [x] := by rw [List.take_succ_eq_append_getElem hlt, hx]
    (repeat (first | refine cw_seq ?_ | refine cw_region ?_ | refine qw_then ?_ | refine cw_skip ?_ | refine cw_block ?_))
    refine lw_index hT rfl rfl rfl i rfl hlt ?_
    skip
    refine lw_load hT rfl rfl (v := .string x) (hri 0 _ rfl) ?_
    (repeat (first | refine lw_pure hT rfl ?_ | refine lw_nil ?_ | refine cw_region ?_ | refine qw_then ?_))
    by_cases hxs : x ∈ s
    · refine lw_mapUpdate_old mp111 rfl rfl rfl hm2 (seen_in hxs) ?_
      intro q w3 hq hm3 hx3 hs3
      have eset : (s.map fun y => (y, Value.bool true)).set q (x, .bool true) = s.map fun y => (y, Value.bool true) := by
        obtain ⟨hql, hqe⟩ := List.getElem?_eq_some_iff.1 hq
        rw [← hqe, List.set_getElem_self]
      rw [eset] at hm3
      (repeat (first | (refine lw_add rfl rfl ?_ ?_ ?_; iterate 2 omega) | refine lw_pure hT rfl ?_ | refine lw_nil ?_ | refine cw_region ?_ | refine qw_then ?_ | refine qw_block ?_))
      refine qw_round (i + 1) (by repeat (first | exact trivial | refine ⟨rfl, ?_⟩)) ⟨hlt, hx2.up_new hx3 (fun j hj => by omega), s, hm3, hsn, fun y => ?_⟩ (by omega)
      rw [etake, List.mem_append, ← hmem y, List.mem_singleton]
      exact ⟨.inl, fun h => h.elim id fun h => h ▸ hxs⟩
    · refine lw_mapUpdate mp111 rfl rfl rfl hm2 (seen_not hxs) ?_
      intro w3 hm3 hx3 hs3
      (repeat (first | (refine lw_add rfl rfl ?_ ?_ ?_; iterate 2 omega) | refine lw_pure hT rfl ?_ | refine lw_nil ?_ | refine cw_region ?_ | refine qw_then ?_ | refine qw_block ?_))
      refine qw_round (i + 1) (by repeat (first | exact trivial | refine ⟨rfl, ?_⟩)) ⟨hlt, hx2.up_new hx3 (fun j hj => by omega), s ++ [x], by simpa using hm3, ?_, fun y => ?_⟩ (by omega)
      · exact ((List.perm_append_comm).nodup_iff).2 (List.nodup_cons.2 ⟨hxs, hsn⟩)
      · rw [etake, List.mem_append, List.mem_append, hmem y]
  · have hil : i = l.length := by have := of_decide_eq_false e; omega
    subst hil
    rw [List.take_length] at hmem
    (repeat (first | refine lw_pure hT rfl ?_ | refine cw_seq ?_ | refine cw_region ?_ | refine qw_then ?_ | refine cw_exit ?_ | refine qw_block_exit ?_ | refine qw_then_exit ?_))
    refine lw_maplen mp111 rfl hm2 ?_
    (repeat (first | refine lw_pure hT rfl ?_ | refine lw_nil ?_ | refine qw_then ?_ | refine cw_ret ?_))
    refine qw_ret rfl ⟨?_, hx2⟩
    have := len_nodup hsn hmem
    show Value.bool _ = Value.bool _
    congr 1
    rw [decide_eq_decide, ← this, List.length_map]
    omega
end Go.Proofs.YtnglkhnfmbnfeaaGreat
namespace Go.Proofs.YtnglkhnfmbnfeaaGreat
open Go Go.SK
theorem take_all_eq {l l' : List ByteArray} (hl : l.length = l'.length) (h : ∀ i (h1 : i < l.length) (h2 : i < l'.length), l[i] = l'[i]) : l = l' := List.ext_getElem hl h
set_option maxHeartbeats 1000000 in
theorem sl_Equal {A B : Nat → Prop} {w : World} {v u : Value} {l l' : List ByteArray} (hS : SlS A w v l) (hS' : SlS B w u l') : Ret Tryz.prog 89 [v, u] w fun x w' => x = .bool (decide (l = l')) ∧ Ex w w' := by
  obtain ⟨a, c, rfl, _, hr⟩ := hS.is
  obtain ⟨a', c', rfl, _, hr'⟩ := hS'.is
  have hsm := hS.small
  have hsm' := hS'.small
  simp only [List.length_map] at *
  unfold maxLen at hsm hsm'
  refine ret_of Tryz.func89 Tryz.ntmps89 rfl rfl rfl ?_
  (repeat (first | refine lw_pure hT rfl ?_ | refine lw_nil ?_ | refine cw_seq ?_ | refine cw_region ?_ | refine qw_then ?_))
  refine cw_cond rfl (fun e => ?_) (fun e => ?_)
  · have hne : ¬ l.length = l'.length := by have := of_decide_eq_true e; omega
    (repeat (first | refine lw_pure hT rfl ?_ | refine lw_nil ?_ | refine cw_seq ?_ | refine cw_region ?_ | refine qw_then ?_ | refine cw_ret ?_ | refine qw_then_ret ?_))
    exact qw_ret rfl ⟨by rw [decide_eq_false (fun h => hne (by rw [h]))]; rfl, Ext.refl _ _⟩
  have hlen : l.length = l'.length := by have := of_decide_eq_false e; omega
  (repeat (first | refine lw_pure hT rfl ?_ | refine lw_nil ?_ | refine cw_seq ?_ | refine cw_region ?_ | refine qw_then ?_ | refine cw_skip ?_ | refine cw_block ?_))
  refine cw_loop (fun i : Nat => [(0, .slice a l.length c), (1, .slice a' l'.length c'), (12, .int .i64 (l.length : Nat)), (13, .int .i64 (i : Nat))])
    (fun i w' => i ≤ l.length ∧ Ex w w' ∧ ∀ j (h1 : j < l.length) (h2 : j < l'.length), j < i → l[j] = l'[j]) (fun i => l.length - i) 0 (by repeat (first | exact trivial | refine ⟨rfl, ?_⟩)) ⟨Nat.zero_le _, Ext.refl _ _, fun j _ _ h => by omega⟩ ?_
  rintro i w2 ⟨hi, hx2, heq⟩
  (repeat (first | refine lw_pure hT rfl ?_ | refine lw_nil ?_ | refine cw_seq ?_ | refine cw_region ?_ | refine qw_then ?_))
  refine cw_cond rfl (fun e => ?_) (fun e => ?_)
  · have hlt : i < l.length := by have := of_decide_eq_true e; omega
    have hlt' : i < l'.length := by omega
    have hne : l.map (fun s => [Value.string s]) ≠ [] := by intro e; simp at e; rw [e] at hlt; simp at hlt
    have hne' : l'.map (fun s => [Value.string s]) ≠ [] := by intro e; simp at e; rw [e] at hlt'; simp at hlt'
    obtain ⟨b, o, rfl, _, hrd⟩ := hr hne
    obtain ⟨b', o', rfl, _, hrd'⟩ := hr' hne'
    have r1 : ∀ w' : World, Ex w w' → w'.cell? ⟨b, o + i * 1, none⟩ = some (.string l[i]) := fun w' hx => by
      have := ((hrd i [.string l[i]] (by simp [hlt])).2.ex hx) 0 _ rfl
      exact this
    have r2 : ∀ w' : World, Ex w w' → w'.cell? ⟨b', o' + i * 1, none⟩ = some (.string l'[i]) := fun w' hx => by
      have := ((hrd' i [.string l'[i]] (by simp [hlt'])).2.ex hx) 0 _ rfl
      exact this
    (repeat (first | refine lw_pure hT rfl ?_ | refine lw_nil ?_ | refine cw_seq ?_ | refine cw_region ?_ | refine qw_then ?_ | refine cw_skip ?_ | refine cw_block ?_))
    refine cw_draw hM (fun w' => Ex w2 w') [] rfl rfl (by repeat with_reducible (first | refine nop_then ?_ | refine nop_block ?_ | exact nop_body)) (fun w3 hx3 _ => ⟨hx3, ?_⟩)
    (refine rw_takeP 0 rfl rfl (by kernel_rfl) (by kernel_rfl) (by kernel_rfl) (by kernel_rfl) rfl (yo_pure hT rfl) ?_; refine rw_takeP 1 rfl rfl (by kernel_rfl) (by kernel_rfl) (by kernel_rfl) (by kernel_rfl) rfl (yo_pure hT rfl) ?_)
    refine rw_takeP 2 rfl rfl (by kernel_rfl) (by kernel_rfl) (by kernel_rfl) (by kernel_rfl) rfl (yo_index hT rfl rfl rfl i rfl hlt) ?_
    refine rw_take 3 rfl rfl (by kernel_rfl) (by kernel_rfl) (by kernel_rfl) (by kernel_rfl) rfl (yo_load hT rfl rfl (v := .string l[i]) (fun w' hS => r1 w' (hx2.trans hS))) ?_
    (refine rw_takeP 4 rfl rfl (by kernel_rfl) (by kernel_rfl) (by kernel_rfl) (by kernel_rfl) rfl (yo_pure hT rfl) ?_; refine rw_takeP 5 rfl rfl (by kernel_rfl) (by kernel_rfl) (by kernel_rfl) (by kernel_rfl) rfl (yo_pure hT rfl) ?_)
    refine rw_takeP 6 rfl rfl (by kernel_rfl) (by kernel_rfl) (by kernel_rfl) (by kernel_rfl) rfl (yo_index hT rfl rfl rfl i rfl hlt') ?_
    refine rw_take 7 rfl rfl (by kernel_rfl) (by kernel_rfl) (by kernel_rfl) (by kernel_rfl) rfl (yo_load hT rfl rfl (v := .string l'[i]) (fun w' hS => r2 w' (hx2.trans hS))) ?_
    (refine rw_takeP 8 rfl rfl (by kernel_rfl) (by kernel_rfl) (by kernel_rfl) (by kernel_rfl) rfl (yo_pure hT rfl) ?_)
    refine rw_done (by kernel_rfl) ?_
    (repeat (refine qw_then ?_))
    refine cw_cond rfl (fun e => ?_) (fun e => ?_)
    · have hne : l[i] ≠ l'[i] := of_decide_eq_true e
      (repeat (first | refine lw_pure hT rfl ?_ | refine lw_nil ?_ | refine cw_seq ?_ | refine cw_region ?_ | refine qw_then ?_ | refine cw_ret ?_ | refine qw_then_ret ?_ | refine qw_block_ret ?_))
      exact qw_ret rfl ⟨by rw [decide_eq_false (fun h => hne (by subst h; rfl))]; rfl, hx2.trans hx3⟩
    · have he : l[i] = l'[i] := by have := of_decide_eq_false e; exact Decidable.not_not.1 this
      (repeat (first | (refine lw_add rfl rfl ?_ ?_ ?_; iterate 2 omega) | refine lw_pure hT rfl ?_ | refine lw_nil ?_ | refine cw_region ?_ | refine qw_then ?_ | refine cw_skip ?_ | refine qw_block ?_))
      refine qw_round (i + 1) (by repeat (first | exact trivial | refine ⟨rfl, ?_⟩)) ⟨hlt, hx2.trans hx3, fun j h1 h2 hj => ?_⟩ (by omega)
      rcases Nat.lt_or_ge j i with h | h
      · exact heq j h1 h2 h
      · have : j = i := by omega
        subst this; exact he
  · have hil : i = l.length := by have := of_decide_eq_false e; omega
    subst hil
    (repeat (first | refine lw_pure hT rfl ?_ | refine lw_nil ?_ | refine cw_seq ?_ | refine cw_region ?_ | refine qw_then ?_ | refine cw_ret ?_ | refine cw_exit ?_ | refine qw_block_exit ?_ | refine qw_then_exit ?_))
    exact qw_ret rfl ⟨by rw [decide_eq_true (take_all_eq hlen fun j h1 h2 => heq j h1 h2 h1)]; rfl, hx2⟩
end Go.Proofs.YtnglkhnfmbnfeaaGreat
namespace Go.SK
open Go
attribute [local semireducible] CW LW QW Ret Kn
section
variable {P : Program} {T : Tab} {n : Nat} {fr : Fr} {w : World} {Q : Exit → Act → World → Prop} {ops : Array Oper} {rest : List Oper}
theorem run_append_make {t u ty e size bytes m : Nat} (hS : SlT P t e size bytes) (hu : P.underlying u = some (.int .i64)) (h0 : 0 < m) (hm : m ≤ maxLen) (hb : m * bytes ≤ 140737488355328) :
    ∃ cap w1, (Builtin.append_ #[t, u] ty #[.slice none 0 0, .int .i64 (m : Nat)]).run P w = .ok (.slice (some ⟨w.heap.size, 0, none⟩) m cap) w1 ∧ w1.ownsRow w.heap.size e size (.slice (some ⟨w.heap.size, 0, none⟩) 0 cap) 0 [] ∧ m ≤ cap ∧ Ex w w1 ∧ w1.heap.size = w.heap.size + 1 := by
  obtain ⟨ht, i, z, hi, hz, hs, hby, hzs⟩ := hS
  unfold maxLen at hm
  have hn : m ≠ 0 := by omega
  have h63' : ¬ (9223372036854775807 < (m : Int)) := by omega
  have h48' : ¬ (281474976710656 < Builtin.nextslicecap m 0 * i.bytes) := by rw [nextslicecap_zero h0, hby]; omega
  have h48 : ¬ ((281474976710656 : Int) < (m : Int) * (i.bytes : Int)) := by
    rw [hby]
    intro h
    have h9 : (281474976710656 : Int) < ((m * bytes : Nat) : Int) := by rw [Int.natCast_mul]; exact h
    have h10 := Int.ofNat_lt.1 h9
    omega
  have hw : IntKind.i64.wrap (m : Int) = m := IntWalk.i64_in _ ⟨by omega, by omega⟩
  have hneg : ¬ ((m : Int) < 0) := by omega
  have hge := grownCap_ge w m 0 e
  have hcm := grownCap_le_maxLen w m 0 e (by unfold maxLen; omega)
  have key : (Builtin.append_ #[t, u] ty #[.slice none 0 0, .int .i64 (m : Nat)]).run P w = .ok (.slice (some ⟨w.heap.size, 0, none⟩) m (grownCap w m 0 e))
      (w.drew.alloc (.cells (Builtin.zeroCells z.cells m ++ Builtin.zeroCells z.cells (grownCap w m 0 e - m)) e)) := by
    simp [Builtin.append_, run_underlying ht, run_underlying hu, sizeOf, typeInfo, zeroValue, hi, hz, Builtin.lenOf, Builtin.firstCells, hn, h63', h48', h48, hw, hneg, asInt, asIntOf, Question.forced, newRow, grownCap]
    intro h
    rw [hs] at h
    have h9 : Builtin.zeroCells z.cells m = #[] := by unfold Builtin.zeroCells; rw [hzs, h]; simp
    rw [h9]; simp
  refine ⟨_, _, key, ⟨by simp, .inr ⟨w.heap.size, _, _, rfl, Nat.le_refl _, heap_alloc_new w.drew _, Nat.zero_le _, hcm, ?_, by simp⟩⟩, hge, (Ext.drawn w _).trans (Ext.alloc _ _), by simp⟩
  simp only [Array.size_append, size_zeroCells, hzs, ← Nat.add_mul]
  congr 1
  omega
theorem lw_cap (hT : TabOk P T) {d t size len cap : Nat} {p : Option Addr} {x : Operand} {ty : TypeId} {ps : String} {af : Array Edge} (hx : ev n fr x = some (.slice p len cap)) (ht : look T.sls t = some size)
    (k : LW P ops Q rest n ((d, .int .i64 (cap : Nat)) :: fr) w) :
    LW P ops Q ({ dst := some d, op := .call ⟨.builtin .cap, #[x], #[t]⟩, type := ty, pos := ps, after := af, guard := none } :: rest) n fr w := by
  obtain ⟨e, inf, hu, hi, hs⟩ := hT.sl ht
  exact lw_run rfl rfl (fun a hk => by simp [execOp, resolve, invoke, builtin, Builtin.cap_, ev_sound hk hx, run_underlying hu, goInt]) k
theorem lw_append_make {d t u e size bytes m : Nat} {x y : Operand} {ty : TypeId} {ps : String} {af : Array Edge} (hS : SlT P t e size bytes) (hu : P.underlying u = some (.int .i64)) (hx : ev n fr x = some (.slice none 0 0)) (hy : ev n fr y = some (.int .i64 (m : Nat)))
    (h0 : 0 < m) (hm : m ≤ maxLen) (hb : m * bytes ≤ 140737488355328)
    (k : ∀ cap w1, w1.ownsRow w.heap.size e size (.slice (some ⟨w.heap.size, 0, none⟩) 0 cap) 0 [] → m ≤ cap → Ex w w1 → w1.heap.size = w.heap.size + 1 → LW P ops Q rest n ((d, .slice (some ⟨w.heap.size, 0, none⟩) m cap) :: fr) w1) :
    LW P ops Q ({ dst := some d, op := .call ⟨.builtin .append, #[x, y], #[t, u]⟩, type := ty, pos := ps, after := af, guard := none } :: rest) n fr w := by
  obtain ⟨cap, w1, g1, g2, g3, g4, g5⟩ := run_append_make (P := P) (w := w) (ty := ty) hS hu h0 hm hb
  exact lw_run rfl rfl (w' := w1) (fun a hk => by simp [execOp, resolve, invoke, builtin, ev_sound hk hx, ev_sound hk hy, g1]) (k cap w1 g2 g3 g4 g5)
end
end Go.SK
namespace Go.Proofs.YtnglkhnfmbnfeaaGreat
open Go Go.SK
theorem sl_Grow {m : Nat} (w : World) (hm : m * 16 ≤ 140737488355328) : Ret Tryz.prog 133 [.slice none 0 0, .int .i64 (m : Nat)] w fun v w' => w'.ownsRow w.heap.size 9 1 v 0 [] ∧ Ex w w' := by
  refine ret_of Tryz.func133 Tryz.ntmps133 rfl rfl rfl ?_
  (repeat (first | refine lw_pure hT rfl ?_ | refine lw_nil ?_ | refine cw_seq ?_ | refine cw_region ?_ | refine qw_then ?_))
  refine cw_cond rfl (fun e => by have := of_decide_eq_true e; omega) (fun _ => ?_)
  (repeat (first | refine lw_pure hT rfl ?_ | refine cw_seq ?_ | refine cw_region ?_ | refine qw_then ?_ | refine cw_skip ?_))
  refine lw_cap hT rfl rfl ?_
  (repeat (first | (refine lw_sub rfl rfl ?_ ?_ ?_; iterate 2 omega) | refine lw_pure hT rfl ?_ | refine lw_nil ?_ | refine cw_seq ?_ | refine cw_region ?_ | refine qw_then ?_))
  have e0 : ((m : Nat) : Int) - (((0 : Nat) : Int) - ((0 : Nat) : Int)) = ((m : Nat) : Int) := by omega
  rw [e0]
  refine cw_cond rfl (fun e => ?_) (fun e => ?_)
  · have h0 : 0 < m := by have := of_decide_eq_true e; omega
    (repeat (first | refine lw_pure hT rfl ?_ | refine cw_region ?_))
    refine lw_cap hT rfl rfl ?_
    skip
    refine lw_slice_sl hT rfl rfl rfl rfl 0 0 rfl rfl (Nat.le_refl _) (Nat.le_refl _) ?_
    (repeat (refine lw_pure hT rfl ?_))
    refine lw_append_make sl31 (by kernel_rfl) rfl rfl h0 (by unfold maxLen; omega) hm ?_
    intro cap w1 h1 h2 h3 h4
    (repeat (refine lw_pure hT rfl ?_))
    refine lw_slice_sl hT rfl rfl rfl rfl 0 0 rfl rfl (Nat.le_refl _) (Nat.zero_le _) ?_
    (repeat (first | refine lw_pure hT rfl ?_ | refine lw_nil ?_ | refine cw_seq ?_ | refine cw_region ?_ | refine qw_then ?_ | refine cw_ret ?_))
    refine qw_ret rfl ⟨?_, h3⟩
    have hc : ¬ cap = 0 := by omega
    simpa [hc, oneOr, Addr.add] using h1
  · (repeat (first | refine lw_pure hT rfl ?_ | refine lw_nil ?_ | refine cw_seq ?_ | refine cw_region ?_ | refine qw_then ?_ | refine cw_ret ?_ | refine cw_skip ?_))
    exact qw_ret rfl ⟨⟨rfl, .inl ⟨rfl, rfl⟩⟩, Ext.refl _ _⟩
end Go.Proofs.YtnglkhnfmbnfeaaGreat
namespace Go.Proofs.YtnglkhnfmbnfeaaGreat
open Go Go.SK
structure SlsAt (A : Nat → Prop) (w : World) (v : Value) (ps : List (List ByteArray)) : Prop where
  is : ∃ p cap, v = .slice p ps.length cap ∧ ∀ i (hi : i < ps.length), ∃ b o u, p = some ⟨b, o, none⟩ ∧ A b ∧ Rd w b (o + i * 1) [u] ∧ SlS A w u ps[i]
  small : ps.length ≤ maxLen
  zero : ∀ p n c, v = .slice p n c → p = none → c = 0
theorem SlsAt.ext {A F : Nat → Prop} {w w' : World} {v : Value} {ps : List (List ByteArray)} (h : SlsAt A w v ps) (hx : Ext F w w') (hn : ∀ b, A b → ¬ F b) : SlsAt A w' v ps := by
  obtain ⟨p, cap, h1, h2⟩ := h.is
  refine ⟨⟨p, cap, h1, fun i hi => ?_⟩, h.small, h.zero⟩
  obtain ⟨b, o, u, e1, e2, e3, e4⟩ := h2 i hi
  exact ⟨b, o, u, e1, e2, e3.ext hx (hn b e2), e4.ext hx hn⟩
theorem SlsAt.ex {A : Nat → Prop} {w w' : World} {v : Value} {ps : List (List ByteArray)} (h : SlsAt A w v ps) (hx : Ex w w') : SlsAt A w' v ps := h.ext hx fun _ _ f => f
theorem flat_take {ps : List (List ByteArray)} {i : Nat} (hi : i < ps.length) : (ps.take (i + 1)).flatten = (ps.take i).flatten ++ ps[i] := by
  rw [List.take_succ_eq_append_getElem hi, List.flatten_append]; simp
theorem flat_le (ps : List (List ByteArray)) (i : Nat) : (ps.take i).flatten.length ≤ ps.flatten.length := by
  have := congrArg List.flatten (List.take_append_drop i ps)
  rw [List.flatten_append] at this
  rw [← this, List.length_append]; omega
set_option maxHeartbeats 1000000 in
theorem sl_Concat {A : Nat → Prop} {w : World} {v : Value} {ps : List (List ByteArray)} (hS : SlsAt A w v ps) (hb : ps.flatten.length * 16 ≤ 140737488355328) :
    Ret Tryz.prog 91 [v] w fun u w' => w'.ownsRow w.heap.size 9 1 u ps.flatten.length (ps.flatten.map Value.string) ∧ Ex w w' := by
  obtain ⟨p, cap, rfl, hrow⟩ := hS.is
  have hsm := hS.small
  unfold maxLen at hsm
  refine ret_of Tryz.func91 Tryz.ntmps91 rfl rfl rfl ?_
  (repeat (first | refine lw_pure hT rfl ?_ | refine lw_nil ?_ | refine cw_seq ?_ | refine cw_region ?_ | refine qw_then ?_ | refine cw_block ?_))
  refine cw_loop (fun i : Nat => [(0, .slice p ps.length cap), (3, .int .i64 ((ps.take i).flatten.length : Nat)), (9, .slice p ps.length cap), (10, .int .i64 (ps.length : Nat)), (11, .int .i64 (i : Nat))]) (fun i w' => i ≤ ps.length ∧ Ex w w') (fun i => ps.length - i) 0 (by repeat (first | exact trivial | refine ⟨rfl, ?_⟩)) ⟨Nat.zero_le _, Ext.refl _ _⟩ ?_
  rintro i w1 ⟨hi, hx1⟩
  have hfl := flat_le ps i
  (repeat (first | refine lw_pure hT rfl ?_ | refine lw_nil ?_ | refine cw_seq ?_ | refine cw_region ?_ | refine qw_then ?_))
  refine cw_cond rfl (fun e => ?_) (fun e => ?_)
  · have hlt : i < ps.length := by have := of_decide_eq_true e; omega
    obtain ⟨b, o, u, rfl, _, hrd, hu⟩ := hrow i hlt
    obtain ⟨a2, c2, rfl, _, _⟩ := hu.is
    have hfl2 := flat_le ps (i + 1)
    rw [flat_take hlt, List.length_append] at hfl2
    simp only [List.length_map] at *
    (repeat (first | refine cw_seq ?_ | refine cw_region ?_ | refine qw_then ?_ | refine cw_skip ?_ | refine cw_block ?_))
    refine lw_index hT rfl rfl rfl i rfl hlt ?_
    skip
    refine lw_load hT rfl rfl (v := .slice a2 ps[i].length c2) ((hrd.ex hx1) 0 _ rfl) ?_
    (repeat (first | (refine lw_add rfl rfl ?_ ?_ ?_; iterate 2 omega) | refine lw_pure hT rfl ?_ | refine lw_nil ?_ | refine cw_seq ?_ | refine cw_region ?_ | refine qw_then ?_))
    refine cw_cond rfl (fun e => by have := of_decide_eq_true e; omega) (fun _ => ?_)
    have es : (((ps.take i).flatten.length : Nat) : Int) + ((ps[i].length : Nat) : Int) = (((ps.take (i + 1)).flatten.length : Nat) : Int) := by rw [flat_take hlt, List.length_append]; omega
    rw [es]
    (repeat (first | (refine lw_add rfl rfl ?_ ?_ ?_; iterate 2 omega) | refine lw_pure hT rfl ?_ | refine lw_nil ?_ | refine cw_region ?_ | refine qw_then ?_ | refine cw_skip ?_ | refine qw_block ?_))
    exact qw_round (i + 1) (by repeat (first | exact trivial | refine ⟨rfl, ?_⟩)) ⟨hlt, hx1⟩ (by omega)
  · have hil : i = ps.length := by have := of_decide_eq_false e; omega
    subst hil
    rw [List.take_length]
    (repeat (first | refine lw_pure hT rfl ?_ | refine cw_seq ?_ | refine cw_region ?_ | refine qw_then ?_ | refine cw_exit ?_ | refine qw_block_exit ?_ | refine qw_then_exit ?_))
    refine lw_call hT rfl rfl (sl_Grow w1 hb) ?_
    rintro v2 w2 ⟨hown, hx2⟩
    have hx02 := hx1.trans hx2
    (repeat (first | refine lw_pure hT rfl ?_ | refine lw_nil ?_ | refine cw_seq ?_ | refine cw_region ?_ | refine qw_then ?_ | refine cw_block ?_))
    refine cw_loop (fun z : Nat × Value => [(6, z.2), (25, .slice p ps.length cap), (26, .int .i64 (ps.length : Nat)), (27, .int .i64 (z.1 : Nat))])
      (fun z w' => z.1 ≤ ps.length ∧ Ex w w' ∧ w'.ownsRow w.heap.size 9 1 z.2 (ps.take z.1).flatten.length ((ps.take z.1).flatten.map Value.string)) (fun z => ps.length - z.1) (0, v2) (by repeat (first | exact trivial | refine ⟨rfl, ?_⟩)) ⟨Nat.zero_le _, hx02, own_mono hown hx1.size⟩ ?_
    rintro ⟨j, v3⟩ w3 ⟨hj, hx3, hown3⟩
    dsimp only at hj hown3 ⊢
    have hfl := flat_le ps j
    (repeat (first | refine lw_pure hT rfl ?_ | refine lw_nil ?_ | refine cw_seq ?_ | refine cw_region ?_ | refine qw_then ?_))
    refine cw_cond rfl (fun e => ?_) (fun e => ?_)
    · have hlt : j < ps.length := by have := of_decide_eq_true e; omega
      obtain ⟨b, o, u, rfl, _, hrd, hu⟩ := hrow j hlt
      have hfl2 := flat_le ps (j + 1)
      rw [flat_take hlt, List.length_append] at hfl2
      (repeat (first | refine cw_seq ?_ | refine cw_region ?_ | refine qw_then ?_ | refine cw_skip ?_ | refine cw_block ?_))
      refine lw_index hT rfl rfl rfl j rfl hlt ?_
      skip
      refine lw_load hT rfl rfl (v := u) ((hrd.ex hx3) 0 _ rfl) ?_
      (repeat (first | refine lw_pure hT rfl ?_ | refine lw_nil ?_ | refine cw_region ?_ | refine qw_then ?_))
      refine lw_append_sl sl31 (by decide) rfl hown3 rfl (hu.ex hx3) (by intro r hr x hx; simp at hr; obtain ⟨y, _, rfl⟩ := hr; simp at hx; subst hx; rfl) (by unfold maxLen; simp only [List.length_map]; omega) (by simp only [List.length_map]; omega) hx3.size ?_
      intro v4 w4 k1 k2 k3 k4
      (repeat (first | (refine lw_add rfl rfl ?_ ?_ ?_; iterate 2 omega) | refine lw_pure hT rfl ?_ | refine lw_nil ?_ | refine cw_region ?_ | refine qw_then ?_ | refine qw_block ?_))
      refine qw_round (x := (j, v3)) (j + 1, v4) (by repeat (first | exact trivial | refine ⟨rfl, ?_⟩)) ⟨hlt, hx3.up_new k2 (fun k hk => (own_base hown3 hk.symm).1), ?_⟩ (by show ps.length - (j + 1) < ps.length - j; omega)
      rw [flat_take hlt]
      simp only [List.length_map] at k1
      rw [List.length_append, List.map_append]
      have ef : (ps[j].map fun s => [Value.string s]).flatten = ps[j].map Value.string := by induction ps[j] with
        | nil => rfl
        | cons x l ih => simp [ih]
      rw [ef] at k1
      exact k1
    · have hjl : j = ps.length := by have := of_decide_eq_false e; omega
      subst hjl
      rw [List.take_length] at hown3
      (repeat (first | refine lw_pure hT rfl ?_ | refine lw_nil ?_ | refine cw_seq ?_ | refine cw_region ?_ | refine qw_then ?_ | refine cw_ret ?_ | refine cw_exit ?_ | refine qw_block_exit ?_ | refine qw_then_exit ?_))
      exact qw_ret rfl ⟨hown3, hx3⟩
end Go.Proofs.YtnglkhnfmbnfeaaGreat
