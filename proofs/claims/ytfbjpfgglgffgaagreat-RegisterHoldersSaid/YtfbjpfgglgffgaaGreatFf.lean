/- Contracts of package supercargoref23, sixth part: Wrong, walked. -/
import Derived.Test.YtfbjpfgglgffgaaGreatFe
set_option linter.unusedVariables false
set_option linter.unusedSimpArgs false
set_option linter.unusedSectionVars false
set_option linter.unnecessarySimpa false
namespace Go.Proofs.YtfbjpfgglgffgaaGreat
open Go Go.SK

set_option maxHeartbeats 4000000 in
theorem r23_Wrong {A A0 : Nat → Prop} {w : World} {vL : Value} {l : List EntD} {gs : List FG} (c : ByteArray) (hF : FRep A w vL l gs) (a : ActD) (vb vp : Value) (hk : 1 ≤ a.kind ∧ a.kind ≤ 5) (hto : a.to_.size ≤ maxLen) :
    Ret Tryz.prog 74 [.agg ⟨encR c vL⟩, .agg ⟨encAct a vb vp⟩] w fun v w' => v = .int .i64 (askC ⟨c, l⟩ a.ask) ∧ Ex w w' := by
  have hbill : a.ask.bill = a.bill := by
    have : a.kind = 1 ∨ a.kind = 2 ∨ a.kind = 3 ∨ a.kind = 4 ∨ a.kind = 5 := by omega
    rcases this with h | h | h | h | h <;> simp [ActD.ask, h]
  obtain ⟨aL, cL, hvL, hLm⟩ := hF.slice
  subst hvL
  unfold maxLen at hLm
  refine ret_of Tryz.func74 Tryz.ntmps74 rfl rfl rfl ?_
  (repeat (first | refine cw_seq ?_ | refine cw_region ?_))
  refine lw_box rfl ?_
  intro b2 w1 hbb2 hb2 hx1 hs1
  replace hb2 : Blk w1 b2 (encR c (.slice aL l.length cL)) 28 := hb2
  skip
  refine lw_box rfl ?_
  intro b3 w2 hbb3 hb3 hx2 hs2
  replace hb3 : Blk w2 b3 (encAct a vb vp) 44 := hb3
  have hx02 := hx1.trans hx2
  have hb22 := hb2.ex hx2
  (repeat (first | refine lw_pure hT rfl ?_ | refine lw_nil ?_ | refine cw_seq ?_ | refine cw_region ?_ | refine qw_then ?_))
  refine lw_load_agg hT rfl rfl rfl (vs := encR c (.slice aL l.length cL)) (hb22.rd 0 2) ?_
  (repeat (refine lw_pure hT rfl ?_))
  refine lw_load hT rfl rfl (v := .string a.bill) (hb3.cell 3) ?_
  skip
  refine lw_call hT rfl rfl (r23_Find c a.bill (hF.ex hx02)) ?_
  rintro _ w3 ⟨rfl, hx3⟩
  have hx03 := hx02.trans hx3
  have hb23 := hb22.ex hx3
  have hb33 := hb3.ex hx3
  have hF3 := hF.ex hx03
  rcases fidx_cases l a.bill with ⟨hi, hat⟩ | ⟨i, hil, hi, hat⟩
  · rw [hi]
    (repeat (first | refine lw_pure hT rfl ?_ | refine lw_nil ?_ | refine cw_seq ?_ | refine cw_region ?_ | refine qw_then ?_))
    refine cw_cond_t rfl (by decide) ?_
    (repeat (first | refine lw_pure hT rfl ?_ | refine lw_nil ?_ | refine cw_seq ?_ | refine cw_region ?_ | refine qw_then ?_ | refine cw_ret ?_ | refine qw_then_ret ?_))
    refine qw_ret rfl ⟨?_, hx03⟩
    have : RegD.at? ⟨c, l⟩ a.ask.bill = none := by rw [hbill]; exact hat
    simp only [askC, this]; rfl
  · rw [hi]
    have hask : askC ⟨c, l⟩ a.ask = wrongE l[i] a := by
      have : RegD.at? ⟨c, l⟩ a.ask.bill = some l[i] := by rw [hbill]; exact hat
      simp only [askC, this]; exact (wrongE_eq hk).symm
    rw [hask]
    obtain ⟨x, g, bL, oL, cL', hx_, hg_, hv, hrd, hE⟩ := hF3.row hil
    cases hv
    have hxi : x = l[i] := by rw [List.getElem?_eq_getElem hil] at hx_; exact (Option.some.inj hx_).symm
    rw [← hxi]
    (repeat (first | refine lw_pure hT rfl ?_ | refine lw_nil ?_ | refine cw_seq ?_ | refine cw_region ?_ | refine qw_then ?_))
    refine cw_cond_f rfl (decide_eq_false (by omega)) ?_
    (repeat (first | refine cw_skip ?_ | refine qw_then ?_ | refine cw_seq ?_))
    refine cw_then_cut (α := Unit) (fun _ => [(2, .pointer (some ⟨b2, 0, none⟩)), (3, .pointer (some ⟨b3, 0, none⟩)), (5, .int .i64 (i : Nat)), (41, .bool (badIx a))]) (fun _ w' => w3 = w') ?_ ?_
    · have fin : ∀ (v : Bool) fr, v = badIx a → subB [(2, .pointer (some ⟨b2, 0, none⟩)), (3, .pointer (some ⟨b3, 0, none⟩)), (5, .int .i64 (i : Nat)), (41, .bool v)] fr → ∀ {Q : Exit → Act → World → Prop}, QW (Exit.then (fun a' w' => ∃ s : Unit, Kn 139 [(2, .pointer (some ⟨b2, 0, none⟩)), (3, .pointer (some ⟨b3, 0, none⟩)), (5, .int .i64 (i : Nat)), (41, .bool (badIx a))] a' ∧ w3 = w') Q) .normal 139 fr w3 := by
        intro v fr hv hs Q; subst hv; exact qw_cut (F := fun _ : Unit => _) (I := fun _ w' => w3 = w') () hs rfl
      (repeat (first | refine lw_pure hT rfl ?_ | refine cw_region ?_))
      refine lw_load hT rfl rfl (v := .int .i64 a.kind) (hb33.cell 0) ?_
      (repeat (refine lw_pure hT rfl ?_))
      refine lw_guard rfl (fun h1 => ?_) (fun h1 => ?_)
      · (repeat (first | refine lw_pure hT rfl ?_ | (refine lw_gon_t rfl ?_ ?_; focus (first | with_reducible rfl | with_reducible exact Bool.not_false | with_reducible exact Bool.not_true))))
        refine lw_load hT rfl rfl (v := .int .i64 a.index) (hb33.cell 1) ?_
        (repeat (first | refine lw_pure hT rfl ?_ | (refine lw_gon_t rfl ?_ ?_; focus (first | with_reducible rfl | with_reducible exact Bool.not_false | with_reducible exact Bool.not_true))))
        refine lw_guard rfl (fun h2 => ?_) (fun h2 => ?_)
        · (repeat (first | refine lw_pure hT rfl ?_ | (refine lw_gon_t rfl ?_ ?_; focus (first | with_reducible rfl | with_reducible exact Bool.not_false | with_reducible exact Bool.not_true)) | (refine lw_goff_t rfl ?_ ?_; focus (first | with_reducible rfl | with_reducible exact Bool.not_false | with_reducible exact Bool.not_true))))
          refine lw_load hT rfl rfl (v := .int .i64 a.kind) (hb33.cell 0) ?_
          (repeat (first | refine lw_pure hT rfl ?_ | (refine lw_gon_t rfl ?_ ?_; focus (first | with_reducible rfl | with_reducible exact Bool.not_false | with_reducible exact Bool.not_true))))
          refine lw_guard rfl (fun h3 => ?_) (fun h3 => ?_)
          · (repeat (first | refine lw_pure hT rfl ?_ | (refine lw_gon_t rfl ?_ ?_; focus (first | with_reducible rfl | with_reducible exact Bool.not_false | with_reducible exact Bool.not_true))))
            refine lw_load hT rfl rfl (v := .int .i64 a.index) (hb33.cell 1) ?_
            (repeat (first | refine lw_pure hT rfl ?_ | refine lw_nil ?_ | (refine lw_gon_t rfl ?_ ?_; focus (first | with_reducible rfl | with_reducible exact Bool.not_false | with_reducible exact Bool.not_true))))
            exact fin _ _ (by simp only [badIx, h1, h2, h3]; rfl) (by repeat (first | exact trivial | refine ⟨rfl, ?_⟩))
          · (repeat (first | refine lw_pure hT rfl ?_ | refine lw_nil ?_ | (refine lw_gon_t rfl ?_ ?_; focus (first | with_reducible rfl | with_reducible exact Bool.not_false | with_reducible exact Bool.not_true)) | (refine lw_goff_f rfl ?_ ?_; focus (first | with_reducible rfl | with_reducible exact Bool.not_false | with_reducible exact Bool.not_true))))
            exact fin _ _ (by simp only [badIx, h1, h2, h3]; rfl) (by repeat (first | exact trivial | refine ⟨rfl, ?_⟩))
        · (repeat (first | refine lw_pure hT rfl ?_ | (refine lw_gon_f rfl ?_ ?_; focus (first | with_reducible rfl | with_reducible exact Bool.not_false | with_reducible exact Bool.not_true))))
          refine lw_load hT rfl rfl (v := .int .i64 a.index) (hb33.cell 1) ?_
          (repeat (first | refine lw_pure hT rfl ?_ | (refine lw_gon_t rfl ?_ ?_; focus (first | with_reducible rfl | with_reducible exact Bool.not_false | with_reducible exact Bool.not_true)) | (refine lw_gon_f rfl ?_ ?_; focus (first | with_reducible rfl | with_reducible exact Bool.not_false | with_reducible exact Bool.not_true))))
          refine lw_guard rfl (fun h4 => ?_) (fun h4 => ?_)
          · (repeat (first | refine lw_pure hT rfl ?_ | (refine lw_gon_t rfl ?_ ?_; focus (first | with_reducible rfl | with_reducible exact Bool.not_false | with_reducible exact Bool.not_true))))
            refine lw_load hT rfl rfl (v := .int .i64 a.kind) (hb33.cell 0) ?_
            (repeat (first | refine lw_pure hT rfl ?_ | (refine lw_gon_t rfl ?_ ?_; focus (first | with_reducible rfl | with_reducible exact Bool.not_false | with_reducible exact Bool.not_true))))
            refine lw_guard rfl (fun h3 => ?_) (fun h3 => ?_)
            · (repeat (first | refine lw_pure hT rfl ?_ | (refine lw_gon_t rfl ?_ ?_; focus (first | with_reducible rfl | with_reducible exact Bool.not_false | with_reducible exact Bool.not_true))))
              refine lw_load hT rfl rfl (v := .int .i64 a.index) (hb33.cell 1) ?_
              (repeat (first | refine lw_pure hT rfl ?_ | refine lw_nil ?_ | (refine lw_gon_t rfl ?_ ?_; focus (first | with_reducible rfl | with_reducible exact Bool.not_false | with_reducible exact Bool.not_true))))
              exact fin _ _ (by simp only [badIx, h1, h2, h3, h4]; rfl) (by repeat (first | exact trivial | refine ⟨rfl, ?_⟩))
            · (repeat (first | refine lw_pure hT rfl ?_ | refine lw_nil ?_ | (refine lw_gon_t rfl ?_ ?_; focus (first | with_reducible rfl | with_reducible exact Bool.not_false | with_reducible exact Bool.not_true)) | (refine lw_goff_f rfl ?_ ?_; focus (first | with_reducible rfl | with_reducible exact Bool.not_false | with_reducible exact Bool.not_true))))
              exact fin _ _ (by simp only [badIx, h1, h2, h3, h4]; rfl) (by repeat (first | exact trivial | refine ⟨rfl, ?_⟩))
          · (repeat (first | refine lw_pure hT rfl ?_ | refine lw_nil ?_ | refine lw_goff_u rfl ?_ | (refine lw_goff_f rfl ?_ ?_; focus (first | with_reducible rfl | with_reducible exact Bool.not_false | with_reducible exact Bool.not_true))))
            exact fin _ _ (by simp only [badIx, h1, h2, h4]; rfl) (by repeat (first | exact trivial | refine ⟨rfl, ?_⟩))
      · (repeat (first | refine lw_pure hT rfl ?_ | refine lw_nil ?_ | refine lw_goff_u rfl ?_ | (refine lw_goff_f rfl ?_ ?_; focus (first | with_reducible rfl | with_reducible exact Bool.not_false | with_reducible exact Bool.not_true))))
        exact fin _ _ (by simp only [badIx, h1]; rfl) (by repeat (first | exact trivial | refine ⟨rfl, ?_⟩))
    rintro _ _ rfl
    (repeat (refine qw_then ?_))
    refine cw_cond rfl (fun hb => ?_) (fun hb => ?_)
    · (repeat (first | refine lw_pure hT rfl ?_ | refine lw_nil ?_ | refine cw_seq ?_ | refine cw_region ?_ | refine qw_then ?_ | refine cw_ret ?_ | refine qw_then_ret ?_))
      exact qw_ret rfl ⟨by unfold wrongE; rw [if_pos hb]; rfl, hx03⟩
    (repeat (first | refine cw_skip ?_ | refine qw_then ?_ | refine cw_seq ?_))
    refine cw_then_cut (α := Unit) (fun _ => [(2, .pointer (some ⟨b2, 0, none⟩)), (3, .pointer (some ⟨b3, 0, none⟩)), (5, .int .i64 (i : Nat)), (68, .bool (badArg a))]) (fun _ w' => w3 = w') ?_ ?_
    · have fin : ∀ (v : Bool) fr, v = badArg a → subB [(2, .pointer (some ⟨b2, 0, none⟩)), (3, .pointer (some ⟨b3, 0, none⟩)), (5, .int .i64 (i : Nat)), (68, .bool v)] fr → ∀ {Q : Exit → Act → World → Prop}, QW (Exit.then (fun a' w' => ∃ s : Unit, Kn 139 [(2, .pointer (some ⟨b2, 0, none⟩)), (3, .pointer (some ⟨b3, 0, none⟩)), (5, .int .i64 (i : Nat)), (68, .bool (badArg a))] a' ∧ w3 = w') Q) .normal 139 fr w3 := by
        intro v fr hv hs Q; subst hv; exact qw_cut (F := fun _ : Unit => _) (I := fun _ w' => w3 = w') () hs rfl
      have tl : ∀ {d : Bool} {P Q : Prop}, P → P := fun h => h
      (repeat (first | refine lw_pure hT rfl ?_ | refine cw_region ?_))
      refine lw_load hT rfl rfl (v := .int .i64 a.kind) (hb33.cell 0) ?_
      (repeat (refine lw_pure hT rfl ?_))
      refine lw_guard rfl (fun h1 => ?_) (fun h1 => ?_)
      · (repeat (first | refine lw_pure hT rfl ?_ | (refine lw_gon_t rfl ?_ ?_; focus (first | with_reducible rfl | with_reducible exact Bool.not_false | with_reducible exact Bool.not_true))))
        refine lw_load hT rfl rfl (v := .int .i64 a.day) (hb33.cell 2) ?_
        (repeat (refine lw_gon_t rfl ?_ ?_; focus (first | with_reducible rfl | with_reducible exact Bool.not_false | with_reducible exact Bool.not_true)))
        refine lw_call hT rfl rfl (r23_Day _ w3) ?_
        rintro _ _ ⟨rfl, rfl⟩
        (repeat (first | refine lw_pure hT rfl ?_ | (refine lw_gon_t rfl ?_ ?_; focus (first | with_reducible rfl | with_reducible exact Bool.not_false | with_reducible exact Bool.not_true))))
        refine lw_guard rfl (fun h2 => ?_) (fun h2 => ?_)
        · (repeat (first | refine lw_pure hT rfl ?_ | refine lw_nil ?_ | refine lw_goff_u rfl ?_ | (refine lw_goff_t rfl ?_ ?_; focus (first | with_reducible rfl | with_reducible exact Bool.not_false | with_reducible exact Bool.not_true))))
          exact fin _ _ (by simp only [badArg, h1, h2]; rfl) (by repeat (first | exact trivial | refine ⟨rfl, ?_⟩))
        · (repeat (first | refine lw_pure hT rfl ?_ | (refine lw_gon_f rfl ?_ ?_; focus (first | with_reducible rfl | with_reducible exact Bool.not_false | with_reducible exact Bool.not_true))))
          refine lw_load hT rfl rfl (v := .int .i64 a.kind) (hb33.cell 0) ?_
          (repeat (first | refine lw_pure hT rfl ?_ | (refine lw_gon_f rfl ?_ ?_; focus (first | with_reducible rfl | with_reducible exact Bool.not_false | with_reducible exact Bool.not_true))))
          refine lw_guard rfl (fun h3 => ?_) (fun h3 => ?_)
          · (repeat (first | refine lw_pure hT rfl ?_ | (refine lw_gon_t rfl ?_ ?_; focus (first | with_reducible rfl | with_reducible exact Bool.not_false | with_reducible exact Bool.not_true))))
            refine lw_load hT rfl rfl (v := .string a.to_) (hb33.cell 5) ?_
            (repeat (refine lw_gon_t rfl ?_ ?_; focus (first | with_reducible rfl | with_reducible exact Bool.not_false | with_reducible exact Bool.not_true)))
            refine lw_call hT rfl rfl (r_Name _ w3 hto) ?_
            rintro _ _ ⟨rfl, rfl⟩
            (repeat (first | refine lw_pure hT rfl ?_ | (refine lw_gon_t rfl ?_ ?_; focus (first | with_reducible rfl | with_reducible exact Bool.not_false | with_reducible exact Bool.not_true))))
            refine lw_guard rfl (fun h4 => ?_) (fun h4 => ?_)
            · (repeat (first | refine lw_pure hT rfl ?_ | refine lw_nil ?_ | (refine lw_gon_t rfl ?_ ?_; focus (first | with_reducible rfl | with_reducible exact Bool.not_false | with_reducible exact Bool.not_true)) | (refine lw_goff_t rfl ?_ ?_; focus (first | with_reducible rfl | with_reducible exact Bool.not_false | with_reducible exact Bool.not_true)) | (refine lw_gon_f rfl ?_ ?_; focus (first | with_reducible rfl | with_reducible exact Bool.not_false | with_reducible exact Bool.not_true))))
              exact fin _ _ (by simp only [badArg, h1, h2, h3, h4]; rfl) (by repeat (first | exact trivial | refine ⟨rfl, ?_⟩))
            · (repeat (first | refine lw_pure hT rfl ?_ | (refine lw_gon_f rfl ?_ ?_; focus (first | with_reducible rfl | with_reducible exact Bool.not_false | with_reducible exact Bool.not_true))))
              refine lw_load hT rfl rfl (v := .string a.to_) (hb33.cell 5) ?_
              (repeat (first | refine lw_pure hT rfl ?_ | (refine lw_gon_f rfl ?_ ?_; focus (first | with_reducible rfl | with_reducible exact Bool.not_false | with_reducible exact Bool.not_true))))
              refine lw_load hT rfl rfl (v := .string a.by_) (hb33.cell 4) ?_
              (repeat (first | refine lw_pure hT rfl ?_ | refine lw_nil ?_ | (refine lw_gon_t rfl ?_ ?_; focus (first | with_reducible rfl | with_reducible exact Bool.not_false | with_reducible exact Bool.not_true)) | (refine lw_gon_f rfl ?_ ?_; focus (first | with_reducible rfl | with_reducible exact Bool.not_false | with_reducible exact Bool.not_true))))
              exact fin _ _ (by simp only [badArg, h1, h2, h3, h4]; rfl) (by repeat (first | exact trivial | refine ⟨rfl, ?_⟩))
          · (repeat (first | refine lw_pure hT rfl ?_ | refine lw_nil ?_ | refine lw_goff_u rfl ?_ | (refine lw_goff_f rfl ?_ ?_; focus (first | with_reducible rfl | with_reducible exact Bool.not_false | with_reducible exact Bool.not_true)) | (refine lw_gon_f rfl ?_ ?_; focus (first | with_reducible rfl | with_reducible exact Bool.not_false | with_reducible exact Bool.not_true))))
            exact fin _ _ (by simp only [badArg, h1, h2, h3]; rfl) (by repeat (first | exact trivial | refine ⟨rfl, ?_⟩))
      · (repeat (first | refine lw_pure hT rfl ?_ | (refine lw_goff_f rfl ?_ ?_; focus (first | with_reducible rfl | with_reducible exact Bool.not_false | with_reducible exact Bool.not_true)) | (refine lw_gon_f rfl ?_ ?_; focus (first | with_reducible rfl | with_reducible exact Bool.not_false | with_reducible exact Bool.not_true))))
        refine lw_load hT rfl rfl (v := .int .i64 a.kind) (hb33.cell 0) ?_
        (repeat (first | refine lw_pure hT rfl ?_ | (refine lw_gon_f rfl ?_ ?_; focus (first | with_reducible rfl | with_reducible exact Bool.not_false | with_reducible exact Bool.not_true))))
        refine lw_guard rfl (fun h3 => ?_) (fun h3 => ?_)
        · (repeat (first | refine lw_pure hT rfl ?_ | (refine lw_gon_t rfl ?_ ?_; focus (first | with_reducible rfl | with_reducible exact Bool.not_false | with_reducible exact Bool.not_true))))
          refine lw_load hT rfl rfl (v := .string a.to_) (hb33.cell 5) ?_
          (repeat (refine lw_gon_t rfl ?_ ?_; focus (first | with_reducible rfl | with_reducible exact Bool.not_false | with_reducible exact Bool.not_true)))
          refine lw_call hT rfl rfl (r_Name _ w3 hto) ?_
          rintro _ _ ⟨rfl, rfl⟩
          (repeat (first | refine lw_pure hT rfl ?_ | (refine lw_gon_t rfl ?_ ?_; focus (first | with_reducible rfl | with_reducible exact Bool.not_false | with_reducible exact Bool.not_true))))
          refine lw_guard rfl (fun h4 => ?_) (fun h4 => ?_)
          · (repeat (first | refine lw_pure hT rfl ?_ | refine lw_nil ?_ | (refine lw_gon_t rfl ?_ ?_; focus (first | with_reducible rfl | with_reducible exact Bool.not_false | with_reducible exact Bool.not_true)) | (refine lw_goff_t rfl ?_ ?_; focus (first | with_reducible rfl | with_reducible exact Bool.not_false | with_reducible exact Bool.not_true)) | (refine lw_gon_f rfl ?_ ?_; focus (first | with_reducible rfl | with_reducible exact Bool.not_false | with_reducible exact Bool.not_true))))
            exact fin _ _ (by simp only [badArg, h1, h3, h4]; rfl) (by repeat (first | exact trivial | refine ⟨rfl, ?_⟩))
          · (repeat (first | refine lw_pure hT rfl ?_ | (refine lw_gon_f rfl ?_ ?_; focus (first | with_reducible rfl | with_reducible exact Bool.not_false | with_reducible exact Bool.not_true))))
            refine lw_load hT rfl rfl (v := .string a.to_) (hb33.cell 5) ?_
            (repeat (first | refine lw_pure hT rfl ?_ | (refine lw_gon_f rfl ?_ ?_; focus (first | with_reducible rfl | with_reducible exact Bool.not_false | with_reducible exact Bool.not_true))))
            refine lw_load hT rfl rfl (v := .string a.by_) (hb33.cell 4) ?_
            (repeat (first | refine lw_pure hT rfl ?_ | refine lw_nil ?_ | (refine lw_gon_t rfl ?_ ?_; focus (first | with_reducible rfl | with_reducible exact Bool.not_false | with_reducible exact Bool.not_true)) | (refine lw_gon_f rfl ?_ ?_; focus (first | with_reducible rfl | with_reducible exact Bool.not_false | with_reducible exact Bool.not_true))))
            exact fin _ _ (by simp only [badArg, h1, h3, h4]; rfl) (by repeat (first | exact trivial | refine ⟨rfl, ?_⟩))
        · (repeat (first | refine lw_pure hT rfl ?_ | refine lw_nil ?_ | refine lw_goff_u rfl ?_ | (refine lw_goff_f rfl ?_ ?_; focus (first | with_reducible rfl | with_reducible exact Bool.not_false | with_reducible exact Bool.not_true)) | (refine lw_gon_f rfl ?_ ?_; focus (first | with_reducible rfl | with_reducible exact Bool.not_false | with_reducible exact Bool.not_true))))
          exact fin _ _ (by simp only [badArg, h1, h3]; rfl) (by repeat (first | exact trivial | refine ⟨rfl, ?_⟩))
    rintro _ _ rfl
    (repeat (refine qw_then ?_))
    refine cw_cond rfl (fun hba => ?_) (fun hba => ?_)
    · (repeat (first | refine lw_pure hT rfl ?_ | refine lw_nil ?_ | refine cw_seq ?_ | refine cw_region ?_ | refine qw_then ?_ | refine cw_ret ?_ | refine qw_then_ret ?_))
      exact qw_ret rfl ⟨by unfold wrongE; rw [hb, hba]; rfl, hx03⟩
    obtain ⟨eW, eI, eN⟩ := goodIx hk hb
    (repeat (first | refine cw_skip ?_ | refine qw_then ?_ | refine cw_seq ?_))
    refine cw_then_cut (α := Nat × Value) (fun s => [(3, .pointer (some ⟨b3, 0, none⟩)), (6, .pointer (some ⟨s.1, 0, none⟩)), (7, s.2), (8, .int .i64 0)]) (fun s w' => Ex w3 w' ∧ Blk w' s.1 (entF (x, g)) 98 ∧ SlI (fun b => w3.heap.size ≤ b) w' s.2 (whichD a)) ?_ ?_
    · refine cw_draw hM (fun w' => Ex w3 w') [] rfl rfl (by repeat (first | with_reducible refine nop_then ?_ | with_reducible refine nop_block ?_ | with_reducible exact nop_body)) (fun w4 hx4 _ => ⟨hx4, ?_⟩)
      (refine rw_takeP 0 rfl rfl (by kernel_rfl) (by kernel_rfl) (by kernel_rfl) (by kernel_rfl) rfl (yo_pure hT rfl) ?_)
      refine rw_take 1 rfl rfl (by kernel_rfl) (by kernel_rfl) (by kernel_rfl) (by kernel_rfl) rfl (yo_load hT rfl rfl (fun w' hS => Ex.cell hS (hb23.cell 1))) ?_
      (refine rw_takeP 2 rfl rfl (by kernel_rfl) (by kernel_rfl) (by kernel_rfl) (by kernel_rfl) rfl (yo_pure hT rfl) ?_)
      refine rw_takeP 3 rfl rfl (by kernel_rfl) (by kernel_rfl) (by kernel_rfl) (by kernel_rfl) rfl (yo_index hT rfl rfl rfl i rfl hil) ?_
      refine rw_take 4 rfl rfl (by kernel_rfl) (by kernel_rfl) (by kernel_rfl) (by kernel_rfl) rfl (yo_load_agg hT rfl rfl rfl (vs := entF (x, g)) (fun w' hS => hrd.ex hS)) ?_
      refine rw_take 5 rfl rfl (by kernel_rfl) (by kernel_rfl) (by kernel_rfl) (by kernel_rfl) rfl (yo_load_agg hT rfl rfl rfl (vs := encAct a vb vp) (fun w' hS => (hb33.ex hS).rd 0 15)) ?_
      have hl4 := hx4.size
      refine rw_two 6 7 rfl rfl (by kernel_rfl) rfl rfl (fun hcl => ?_) (fun hcl => ?_)
      · skip
        refine lw_call hT rfl rfl (r23_which a vb vp w4) ?_
        rintro v5 w5 ⟨hv5, hx5⟩
        have hl5 := hx5.size
        (repeat (refine lw_nil ?_))
        refine qw_rw (by repeat (first | with_reducible refine nop_then ?_ | with_reducible refine nop_block ?_ | with_reducible exact nop_body)) hcl (fun _ => hx4.trans hx5) ?_
        refine rw_one 7 rfl (by kernel_rfl) rfl (fun hcl => ?_)
        refine lw_alloc z98 ?_
        intro b6 w6 hbb6 hb6 hx6 hs6
        (repeat (refine lw_nil ?_))
        refine qw_rw (by repeat (first | with_reducible refine nop_then ?_ | with_reducible refine nop_block ?_ | with_reducible exact nop_body)) hcl (fun _ => (hx4.trans hx5).trans hx6) ?_
        refine rw_one 8 rfl (by kernel_rfl) rfl (fun hcl => ?_)
        refine lw_store_agg hT rfl rfl rfl rfl (entF_one hE) hb6 (show (11 : Nat) ≤ 11 by decide) ?_
        intro w7 hb7 hx7 hs7
        have hx37 := ((hx4.trans hx5).trans hx6).up_new hx7 (fun i hi => by omega)
        (repeat (refine lw_nil ?_))
        refine qw_rw (by repeat (first | with_reducible refine nop_then ?_ | with_reducible refine nop_block ?_ | with_reducible exact nop_body)) hcl (fun _ => hx37) ?_
        (refine rw_takeP 9 rfl rfl (by kernel_rfl) (by kernel_rfl) (by kernel_rfl) (by kernel_rfl) rfl (yo_pure hT rfl) ?_; refine rw_takeP 10 rfl rfl (by kernel_rfl) (by kernel_rfl) (by kernel_rfl) (by kernel_rfl) rfl (yo_pure hT rfl) ?_)
        refine rw_done (by kernel_rfl) ?_
        skip
        exact qw_cut (b6, v5) (by repeat (first | exact trivial | refine ⟨rfl, ?_⟩)) ⟨hx37, hb7, (((hv5.weaken (B := fun b => w3.heap.size ≤ b ∧ b ≠ b6) (fun b hb => ⟨by have := hb.1; omega, by have := hb.2; omega⟩)).ex hx6).ext hx7 (fun b hb => hb.2)).weaken fun b hb => hb.1⟩
      · refine lw_alloc z98 ?_
        intro b6 w6 hbb6 hb6 hx6 hs6
        (repeat (refine lw_nil ?_))
        refine qw_rw (by repeat (first | with_reducible refine nop_then ?_ | with_reducible refine nop_block ?_ | with_reducible exact nop_body)) hcl (fun _ => hx4.trans hx6) ?_
        refine rw_one 6 rfl (by kernel_rfl) rfl (fun hcl => ?_)
        skip
        refine lw_call hT rfl rfl (r23_which a vb vp w6) ?_
        rintro v5 w5 ⟨hv5, hx5⟩
        have hl5 := hx5.size
        have hb65 := hb6.ex hx5
        (repeat (refine lw_nil ?_))
        refine qw_rw (by repeat (first | with_reducible refine nop_then ?_ | with_reducible refine nop_block ?_ | with_reducible exact nop_body)) hcl (fun _ => (hx4.trans hx6).trans hx5) ?_
        refine rw_one 8 rfl (by kernel_rfl) rfl (fun hcl => ?_)
        refine lw_store_agg hT rfl rfl rfl rfl (entF_one hE) hb65 (show (11 : Nat) ≤ 11 by decide) ?_
        intro w7 hb7 hx7 hs7
        have hx37 := ((hx4.trans hx6).trans hx5).up_new hx7 (fun i hi => by omega)
        (repeat (refine lw_nil ?_))
        refine qw_rw (by repeat (first | with_reducible refine nop_then ?_ | with_reducible refine nop_block ?_ | with_reducible exact nop_body)) hcl (fun _ => hx37) ?_
        (refine rw_takeP 9 rfl rfl (by kernel_rfl) (by kernel_rfl) (by kernel_rfl) (by kernel_rfl) rfl (yo_pure hT rfl) ?_; refine rw_takeP 10 rfl rfl (by kernel_rfl) (by kernel_rfl) (by kernel_rfl) (by kernel_rfl) rfl (yo_pure hT rfl) ?_)
        refine rw_done (by kernel_rfl) ?_
        skip
        exact qw_cut (b6, v5) (by repeat (first | exact trivial | refine ⟨rfl, ?_⟩)) ⟨hx37, hb7, ((hv5.weaken (B := fun b => w3.heap.size ≤ b ∧ b ≠ b6) (fun b hb => ⟨by have := hb.1; omega, by have := hb.1; omega⟩)).ext hx7 (fun b hb => hb.2)).weaken fun b hb => hb.1⟩
    rintro ⟨b6, v7⟩ w4 ⟨hx4, hb6, hv7⟩
    dsimp only at hb6 hv7
    have hx04 := hx03.trans hx4
    have hb34 := hb33.ex hx4
    have hE4 := hE.ex hx4
    have hnn : ((whichD a).map fun i => [Value.int .i64 i]) ≠ [] := by rw [eW]; simp; exact eN
    have hwl : (whichD a).length = (whichN a).length := by rw [eW]; simp
    have hwm := hv7.small
    obtain ⟨va, vcap, hv7e, _, hvr⟩ := hv7.is
    subst hv7e
    obtain ⟨bw, ow, rfl, hbw, hwrd⟩ := hvr hnn
    simp only [List.length_map] at hwm ⊢
    unfold maxLen at hwm
    have hlen3 : (whichN a).length ≤ 3 := by rw [eI, ← ixs_eq]; exact Nat.le_trans (List.length_filter_le _ _) (by simp)
    have get : ∀ j (hj : j < (whichN a).length), (whichN a)[j] < 3 ∧ w4.cell? ⟨bw, ow + j * 1, none⟩ = some (.int .i64 ((whichN a)[j] : Nat)) := by
      intro j hj
      refine ⟨ixs_lt (index := a.ask.index) (eI ▸ List.getElem_mem hj), ?_⟩
      have h1 : ((whichD a).map fun i => [Value.int .i64 i])[j]? = some [.int .i64 ((whichN a)[j] : Nat)] := by
        rw [eW, List.map_map, List.getElem?_map, List.getElem?_eq_getElem hj]; rfl
      exact (hwrd j _ h1).2 0 _ rfl
    rw [hwl]
    (repeat (first | refine qw_then ?_ ))
    refine cw_seq ?_
    refine cw_then_cut (α := Unit) (fun _ => [(3, .pointer (some ⟨b3, 0, none⟩)), (6, .pointer (some ⟨b6, 0, none⟩)), (7, .slice (some ⟨bw, ow, none⟩) (whichN a).length vcap), (8, .int .i64 (stW a))]) (fun _ w' => w4 = w') ?_ ?_
    · (repeat (first | refine lw_pure hT rfl ?_ | refine cw_seq ?_ | refine cw_region ?_))
      refine lw_load hT rfl rfl (v := .int .i64 a.kind) (hb34.cell 0) ?_
      (repeat (first | refine lw_pure hT rfl ?_ | refine lw_nil ?_ | refine qw_then ?_))
      refine cw_cond rfl (fun h => ?_) (fun h => ?_)
      · have e : stW a = 3 := by unfold stW; rw [if_pos (by simpa using h)]
        rw [e]
        (repeat (first | refine lw_pure hT rfl ?_ | refine lw_nil ?_ | refine cw_region ?_))
        exact qw_cut () (by repeat (first | exact trivial | refine ⟨rfl, ?_⟩)) rfl
      · have e : stW a = 0 := by unfold stW; rw [if_neg (by simpa using h)]
        rw [e]
        (repeat (refine cw_skip ?_))
        exact qw_cut () (by repeat (first | exact trivial | refine ⟨rfl, ?_⟩)) rfl
    rintro _ _ rfl
    -- the first walk over the originals: their states
    (repeat (first | refine lw_pure hT rfl ?_ | refine lw_nil ?_ | refine cw_seq ?_ | refine cw_region ?_ | refine qw_then ?_ | refine cw_block ?_))
    refine cw_loop (fun j : Nat => [(3, .pointer (some ⟨b3, 0, none⟩)), (6, .pointer (some ⟨b6, 0, none⟩)), (7, .slice (some ⟨bw, ow, none⟩) (whichN a).length vcap), (8, .int .i64 (stW a)), (9, .int .i64 (j : Nat))])
      (fun j w' => Ex w4 w' ∧ j ≤ (whichN a).length ∧ ∀ j' (hj : j' < (whichN a).length), j' < j → (decide (x.state ≠ 0) || decide ((papAt x (whichN a)[j']).state ≠ stW a)) = false) (fun j => (whichN a).length - j) 0 (by repeat (first | exact trivial | refine ⟨rfl, ?_⟩)) ⟨Ext.refl _ _, Nat.zero_le _, fun j' _ h => by omega⟩ ?_
    rintro j w5 ⟨hx5, hj, hno⟩
    (repeat (first | refine lw_pure hT rfl ?_ | refine lw_nil ?_ | refine cw_seq ?_ | refine cw_region ?_ | refine qw_then ?_))
    refine cw_cond rfl (fun h => ?_) (fun h => ?_)
    · have hlt : j < (whichN a).length := by have := of_decide_eq_true h; omega
      obtain ⟨hk3, hcell⟩ := get j hlt
      obtain ⟨vc, bp, op, capp, hvP, _, hprd, _, _⟩ := hE4.paper hk3
      have step : (decide (x.state ≠ 0) || decide ((papAt x (whichN a)[j]).state ≠ stW a)) = false → ∀ j' (hj : j' < (whichN a).length), j' < j + 1 → (decide (x.state ≠ 0) || decide ((papAt x (whichN a)[j']).state ≠ stW a)) = false := by
        intro h' j' hj' hjj
        by_cases e : j' = j
        · subst e; exact h'
        · exact hno j' hj' (by omega)
      have hit : (decide (x.state ≠ 0) || decide ((papAt x (whichN a)[j]).state ≠ stW a)) = true → wrongE x a = 9 := fun h' => by
        unfold wrongE; rw [hb, hba, if_pos (List.any_eq_true.2 ⟨_, List.getElem_mem hlt, h'⟩)]; rfl
      (repeat (first | refine cw_seq ?_ | refine qw_then ?_ | refine cw_skip ?_ | refine cw_block ?_))
      refine cw_draw hM (fun w' => Ex w4 w') [] rfl rfl (by repeat (first | with_reducible refine nop_then ?_ | with_reducible refine nop_block ?_ | with_reducible exact nop_body)) (fun w6 hx6 _ => ⟨hx5.trans hx6, ?_⟩)
      (refine rw_takeP 0 rfl rfl (by kernel_rfl) (by kernel_rfl) (by kernel_rfl) (by kernel_rfl) rfl (yo_pure hT rfl) ?_)
      refine rw_take 1 rfl rfl (by kernel_rfl) (by kernel_rfl) (by kernel_rfl) (by kernel_rfl) rfl (yo_load hT rfl rfl (v := .int .i64 x.state) (fun w' hS => Ex.cell hS (hb6.cell 9))) ?_
      (refine rw_takeP 2 rfl rfl (by kernel_rfl) (by kernel_rfl) (by kernel_rfl) (by kernel_rfl) rfl (yo_pure hT rfl) ?_; refine rw_takeP 3 rfl rfl (by kernel_rfl) (by kernel_rfl) (by kernel_rfl) (by kernel_rfl) rfl (yo_pure hT rfl) ?_)
      refine rw_split (d := 88) rfl (fun h8 => ?_) (fun h8 => ?_)
      · (refine rw_takeP 4 rfl rfl (by kernel_rfl) (by kernel_rfl) (by kernel_rfl) (by kernel_rfl) rfl (yo_off rfl rfl) ?_; refine rw_takeP 5 rfl rfl (by kernel_rfl) (by kernel_rfl) (by kernel_rfl) (by kernel_rfl) rfl (yo_off rfl rfl) ?_; refine rw_takeP 6 rfl rfl (by kernel_rfl) (by kernel_rfl) (by kernel_rfl) (by kernel_rfl) rfl (yo_off rfl rfl) ?_; refine rw_takeP 7 rfl rfl (by kernel_rfl) (by kernel_rfl) (by kernel_rfl) (by kernel_rfl) rfl (yo_off rfl rfl) ?_; refine rw_takeP 8 rfl rfl (by kernel_rfl) (by kernel_rfl) (by kernel_rfl) (by kernel_rfl) rfl (yo_off rfl rfl) ?_; refine rw_takeP 9 rfl rfl (by kernel_rfl) (by kernel_rfl) (by kernel_rfl) (by kernel_rfl) rfl (yo_off rfl rfl) ?_; refine rw_takeP 10 rfl rfl (by kernel_rfl) (by kernel_rfl) (by kernel_rfl) (by kernel_rfl) rfl (yo_off rfl rfl) ?_; refine rw_takeP 11 rfl rfl (by kernel_rfl) (by kernel_rfl) (by kernel_rfl) (by kernel_rfl) rfl (yo_off rfl rfl) ?_; refine rw_takeP 12 rfl rfl (by kernel_rfl) (by kernel_rfl) (by kernel_rfl) (by kernel_rfl) rfl (yo_off rfl rfl) ?_; refine rw_takeP 13 rfl rfl (by kernel_rfl) (by kernel_rfl) (by kernel_rfl) (by kernel_rfl) rfl (yo_off rfl rfl) ?_; refine rw_takeP 14 rfl rfl (by kernel_rfl) (by kernel_rfl) (by kernel_rfl) (by kernel_rfl) rfl (yo_off rfl rfl) ?_)
        (refine rw_takeP 15 rfl rfl (by kernel_rfl) (by kernel_rfl) (by kernel_rfl) (by kernel_rfl) rfl (yo_pure hT rfl) ?_)
        refine rw_done (by kernel_rfl) ?_
        (repeat (first | refine lw_pure hT rfl ?_ | refine lw_nil ?_ | refine cw_seq ?_ | refine cw_region ?_ | refine qw_then ?_ | refine cw_ret ?_ | refine qw_then_ret ?_ | refine qw_block_ret ?_ | (refine cw_cond_t rfl ?_ ?_; focus (first | with_reducible rfl | with_reducible exact Bool.not_false | with_reducible exact Bool.not_true))))
        exact qw_ret rfl ⟨by rw [hit (by rw [h8]; rfl)]; rfl, (hx04.trans hx5).trans hx6⟩
      · (refine rw_takeP 4 rfl rfl (by kernel_rfl) (by kernel_rfl) (by kernel_rfl) (by kernel_rfl) rfl (yo_on rfl rfl (yo_pure hT rfl)) ?_)
        refine rw_take 5 rfl rfl (by kernel_rfl) (by kernel_rfl) (by kernel_rfl) (by kernel_rfl) rfl (yo_on rfl rfl (yo_load hT rfl rfl (fun w' hS => Ex.cell hS ((hb6.cell 10).trans (congrArg some hvP))))) ?_
        (refine rw_takeP 6 rfl rfl (by kernel_rfl) (by kernel_rfl) (by kernel_rfl) (by kernel_rfl) rfl (yo_on rfl rfl (yo_pure hT rfl)) ?_; refine rw_takeP 7 rfl rfl (by kernel_rfl) (by kernel_rfl) (by kernel_rfl) (by kernel_rfl) rfl (yo_on rfl rfl (yo_pure hT rfl)) ?_)
        refine rw_takeP 8 rfl rfl (by kernel_rfl) (by kernel_rfl) (by kernel_rfl) (by kernel_rfl) rfl (yo_on rfl rfl (yo_index hT rfl rfl rfl j rfl hlt)) ?_
        refine rw_take 9 rfl rfl (by kernel_rfl) (by kernel_rfl) (by kernel_rfl) (by kernel_rfl) rfl (yo_on rfl rfl (yo_load hT rfl rfl (fun w' hS => Ex.cell hS hcell))) ?_
        refine rw_takeP 10 rfl rfl (by kernel_rfl) (by kernel_rfl) (by kernel_rfl) (by kernel_rfl) rfl (yo_on rfl rfl (yo_index hT rfl rfl rfl ((whichN a)[j]) rfl hk3)) ?_
        (refine rw_takeP 11 rfl rfl (by kernel_rfl) (by kernel_rfl) (by kernel_rfl) (by kernel_rfl) rfl (yo_on rfl rfl (yo_pure hT rfl)) ?_)
        refine rw_take 12 rfl rfl (by kernel_rfl) (by kernel_rfl) (by kernel_rfl) (by kernel_rfl) rfl (yo_on rfl rfl (yo_load hT rfl rfl (v := .int .i64 (papAt x (whichN a)[j]).state) (fun w' hS => Ex.cell hS (hprd 0 _ rfl)))) ?_
        (refine rw_takeP 13 rfl rfl (by kernel_rfl) (by kernel_rfl) (by kernel_rfl) (by kernel_rfl) rfl (yo_on rfl rfl (yo_pure hT rfl)) ?_; refine rw_takeP 14 rfl rfl (by kernel_rfl) (by kernel_rfl) (by kernel_rfl) (by kernel_rfl) rfl (yo_on rfl rfl (yo_pure hT rfl)) ?_)
        (refine rw_takeP 15 rfl rfl (by kernel_rfl) (by kernel_rfl) (by kernel_rfl) (by kernel_rfl) rfl (yo_pure hT rfl) ?_)
        refine rw_done (by kernel_rfl) ?_
        (repeat (refine qw_then ?_))
        refine cw_cond rfl (fun h9 => ?_) (fun h9 => ?_)
        · (repeat (first | refine lw_pure hT rfl ?_ | refine lw_nil ?_ | refine cw_seq ?_ | refine cw_region ?_ | refine qw_then ?_ | refine cw_ret ?_ | refine qw_then_ret ?_ | refine qw_block_ret ?_))
          exact qw_ret rfl ⟨by rw [hit (by rw [h8, h9]; rfl)]; rfl, (hx04.trans hx5).trans hx6⟩
        · (repeat (first | (refine lw_add rfl rfl ?_ ?_ ?_; iterate 2 omega) | refine lw_pure hT rfl ?_ | refine lw_nil ?_ | refine cw_region ?_ | refine qw_then ?_ | refine cw_skip ?_ | refine qw_block ?_))
          exact qw_round (j + 1) (by repeat (first | exact trivial | refine ⟨rfl, ?_⟩)) ⟨hx5.trans hx6, hlt, step (by rw [h8, h9]; rfl)⟩ (by omega)
    · have : j = (whichN a).length := by have := of_decide_eq_false h; omega
      subst this
      have q2 : (whichN a).any (fun k => decide (x.state ≠ 0) || decide ((papAt x k).state ≠ stW a)) = false := by
        rw [List.any_eq_false]
        intro k hkm
        obtain ⟨j', hj', rfl⟩ := List.getElem_of_mem hkm
        rw [hno j' hj' hj']; decide
      -- the second: their holders
      (repeat (first | refine lw_pure hT rfl ?_ | refine lw_nil ?_ | refine cw_seq ?_ | refine cw_region ?_ | refine qw_then ?_ | refine cw_block ?_ | refine cw_exit ?_ | refine qw_block_exit ?_ | refine qw_then_exit ?_))
      refine cw_loop (fun j : Nat => [(3, .pointer (some ⟨b3, 0, none⟩)), (6, .pointer (some ⟨b6, 0, none⟩)), (7, .slice (some ⟨bw, ow, none⟩) (whichN a).length vcap), (10, .int .i64 (j : Nat))])
        (fun j w' => Ex w4 w' ∧ j ≤ (whichN a).length ∧ ∀ j' (hj : j' < (whichN a).length), j' < j → decide ((papAt x (whichN a)[j']).holder ≠ a.by_) = false) (fun j => (whichN a).length - j) 0 (by repeat (first | exact trivial | refine ⟨rfl, ?_⟩)) ⟨hx5, Nat.zero_le _, fun j' _ h => by omega⟩ ?_
      rintro j w7 ⟨hx7, hj, hno2⟩
      (repeat (first | refine lw_pure hT rfl ?_ | refine lw_nil ?_ | refine cw_seq ?_ | refine cw_region ?_ | refine qw_then ?_))
      refine cw_cond rfl (fun h => ?_) (fun h => ?_)
      · have hlt : j < (whichN a).length := by have := of_decide_eq_true h; omega
        obtain ⟨hk3, hcell⟩ := get j hlt
        obtain ⟨vc, bp, op, capp, hvP, _, hprd, _, _⟩ := hE4.paper hk3
        (repeat (first | refine cw_seq ?_ | refine qw_then ?_ | refine cw_skip ?_ | refine cw_block ?_))
        refine cw_draw hM (fun w' => Ex w4 w') [] rfl rfl (by repeat (first | with_reducible refine nop_then ?_ | with_reducible refine nop_block ?_ | with_reducible exact nop_body)) (fun w8 hx8 _ => ⟨hx7.trans hx8, ?_⟩)
        (refine rw_takeP 0 rfl rfl (by kernel_rfl) (by kernel_rfl) (by kernel_rfl) (by kernel_rfl) rfl (yo_pure hT rfl) ?_)
        refine rw_take 1 rfl rfl (by kernel_rfl) (by kernel_rfl) (by kernel_rfl) (by kernel_rfl) rfl (yo_load hT rfl rfl (fun w' hS => Ex.cell hS ((hb6.cell 10).trans (congrArg some hvP)))) ?_
        (refine rw_takeP 2 rfl rfl (by kernel_rfl) (by kernel_rfl) (by kernel_rfl) (by kernel_rfl) rfl (yo_pure hT rfl) ?_; refine rw_takeP 3 rfl rfl (by kernel_rfl) (by kernel_rfl) (by kernel_rfl) (by kernel_rfl) rfl (yo_pure hT rfl) ?_)
        refine rw_takeP 4 rfl rfl (by kernel_rfl) (by kernel_rfl) (by kernel_rfl) (by kernel_rfl) rfl (yo_index hT rfl rfl rfl j rfl hlt) ?_
        refine rw_take 5 rfl rfl (by kernel_rfl) (by kernel_rfl) (by kernel_rfl) (by kernel_rfl) rfl (yo_load hT rfl rfl (fun w' hS => Ex.cell hS hcell)) ?_
        refine rw_takeP 6 rfl rfl (by kernel_rfl) (by kernel_rfl) (by kernel_rfl) (by kernel_rfl) rfl (yo_index hT rfl rfl rfl ((whichN a)[j]) rfl hk3) ?_
        (refine rw_takeP 7 rfl rfl (by kernel_rfl) (by kernel_rfl) (by kernel_rfl) (by kernel_rfl) rfl (yo_pure hT rfl) ?_)
        refine rw_take 8 rfl rfl (by kernel_rfl) (by kernel_rfl) (by kernel_rfl) (by kernel_rfl) rfl (yo_load hT rfl rfl (v := .string (papAt x (whichN a)[j]).holder) (fun w' hS => Ex.cell hS (hprd 1 _ rfl))) ?_
        (refine rw_takeP 9 rfl rfl (by kernel_rfl) (by kernel_rfl) (by kernel_rfl) (by kernel_rfl) rfl (yo_pure hT rfl) ?_)
        refine rw_take 10 rfl rfl (by kernel_rfl) (by kernel_rfl) (by kernel_rfl) (by kernel_rfl) rfl (yo_load hT rfl rfl (v := .string a.by_) (fun w' hS => Ex.cell hS (hb34.cell 4))) ?_
        (refine rw_takeP 11 rfl rfl (by kernel_rfl) (by kernel_rfl) (by kernel_rfl) (by kernel_rfl) rfl (yo_pure hT rfl) ?_)
        refine rw_done (by kernel_rfl) ?_
        (repeat (refine qw_then ?_))
        refine cw_cond rfl (fun h9 => ?_) (fun h9 => ?_)
        · (repeat (first | refine lw_pure hT rfl ?_ | refine lw_nil ?_ | refine cw_seq ?_ | refine cw_region ?_ | refine qw_then ?_ | refine cw_ret ?_ | refine qw_then_ret ?_ | refine qw_block_ret ?_))
          refine qw_ret rfl ⟨?_, (hx04.trans hx7).trans hx8⟩
          have : wrongE x a = 8 := by unfold wrongE; rw [hb, hba, q2, if_pos (List.any_eq_true.2 ⟨_, List.getElem_mem hlt, h9⟩)]; rfl
          rw [this]; rfl
        · (repeat (first | (refine lw_add rfl rfl ?_ ?_ ?_; iterate 2 omega) | refine lw_pure hT rfl ?_ | refine lw_nil ?_ | refine cw_region ?_ | refine qw_then ?_ | refine cw_skip ?_ | refine qw_block ?_))
          refine qw_round (j + 1) (by repeat (first | exact trivial | refine ⟨rfl, ?_⟩)) ⟨hx7.trans hx8, hlt, fun j' hj' hjj => ?_⟩ (by omega)
          by_cases e : j' = j
          · subst e; exact h9
          · exact hno2 j' hj' (by omega)
      · have : j = (whichN a).length := by have := of_decide_eq_false h; omega
        subst this
        have q3 : (whichN a).any (fun k => decide ((papAt x k).holder ≠ a.by_)) = false := by
          rw [List.any_eq_false]
          intro k hkm
          obtain ⟨j', hj', rfl⟩ := List.getElem_of_mem hkm
          rw [hno2 j' hj' hj']; decide
        -- the third: their days
        (repeat (first | refine lw_pure hT rfl ?_ | refine lw_nil ?_ | refine cw_seq ?_ | refine cw_region ?_ | refine qw_then ?_ | refine cw_block ?_ | refine cw_exit ?_ | refine qw_block_exit ?_ | refine qw_then_exit ?_))
        refine cw_loop (fun j : Nat => [(3, .pointer (some ⟨b3, 0, none⟩)), (6, .pointer (some ⟨b6, 0, none⟩)), (7, .slice (some ⟨bw, ow, none⟩) (whichN a).length vcap), (11, .int .i64 (j : Nat))])
          (fun j w' => Ex w4 w' ∧ j ≤ (whichN a).length ∧ ∀ j' (hj : j' < (whichN a).length), j' < j → (decide (a.kind ≠ 3) && decide (a.day < untilD x.bill (papAt x (whichN a)[j']))) = false) (fun j => (whichN a).length - j) 0 (by repeat (first | exact trivial | refine ⟨rfl, ?_⟩)) ⟨hx7, Nat.zero_le _, fun j' _ h => by omega⟩ ?_
        rintro j w9 ⟨hx9, hj, hno3⟩
        (repeat (first | refine lw_pure hT rfl ?_ | refine lw_nil ?_ | refine cw_seq ?_ | refine cw_region ?_ | refine qw_then ?_))
        refine cw_cond rfl (fun h => ?_) (fun h => ?_)
        · have hlt : j < (whichN a).length := by have := of_decide_eq_true h; omega
          obtain ⟨hk3, hcell⟩ := get j hlt
          have step : (decide (a.kind ≠ 3) && decide (a.day < untilD x.bill (papAt x (whichN a)[j]))) = false → ∀ j' (hj : j' < (whichN a).length), j' < j + 1 → (decide (a.kind ≠ 3) && decide (a.day < untilD x.bill (papAt x (whichN a)[j']))) = false := by
            intro h' j' hj' hjj
            by_cases e : j' = j
            · subst e; exact h'
            · exact hno3 j' hj' (by omega)
          (repeat (first | refine cw_seq ?_ | refine qw_then ?_ | refine cw_skip ?_ | refine cw_block ?_))
          refine cw_draw hM (fun w' => Ex w4 w') [] rfl rfl (by repeat (first | with_reducible refine nop_then ?_ | with_reducible refine nop_block ?_ | with_reducible exact nop_body)) (fun w10 hx10 _ => ⟨hx9.trans hx10, ?_⟩)
          (refine rw_takeP 0 rfl rfl (by kernel_rfl) (by kernel_rfl) (by kernel_rfl) (by kernel_rfl) rfl (yo_pure hT rfl) ?_)
          refine rw_take 1 rfl rfl (by kernel_rfl) (by kernel_rfl) (by kernel_rfl) (by kernel_rfl) rfl (yo_load hT rfl rfl (v := .int .i64 a.kind) (fun w' hS => Ex.cell hS (hb34.cell 0))) ?_
          (refine rw_takeP 2 rfl rfl (by kernel_rfl) (by kernel_rfl) (by kernel_rfl) (by kernel_rfl) rfl (yo_pure hT rfl) ?_; refine rw_takeP 3 rfl rfl (by kernel_rfl) (by kernel_rfl) (by kernel_rfl) (by kernel_rfl) rfl (yo_pure hT rfl) ?_)
          refine rw_split (d := 128) rfl (fun h8 => ?_) (fun h8 => ?_)
          · (refine rw_takeP 4 rfl rfl (by kernel_rfl) (by kernel_rfl) (by kernel_rfl) (by kernel_rfl) rfl (yo_on rfl rfl (yo_pure hT rfl)) ?_)
            refine rw_take 5 rfl rfl (by kernel_rfl) (by kernel_rfl) (by kernel_rfl) (by kernel_rfl) rfl (yo_on rfl rfl (yo_load hT rfl rfl (v := .int .i64 a.day) (fun w' hS => Ex.cell hS (hb34.cell 2)))) ?_
            refine rw_take 6 rfl rfl (by kernel_rfl) (by kernel_rfl) (by kernel_rfl) (by kernel_rfl) rfl (yo_on rfl rfl (yo_load_agg hT rfl rfl rfl (vs := entF (x, g)) (fun w' hS => (hb6.ex hS).rd 0 11))) ?_
            (refine rw_takeP 7 rfl rfl (by kernel_rfl) (by kernel_rfl) (by kernel_rfl) (by kernel_rfl) rfl (yo_on rfl rfl (yo_pure hT rfl)) ?_; refine rw_takeP 8 rfl rfl (by kernel_rfl) (by kernel_rfl) (by kernel_rfl) (by kernel_rfl) rfl (yo_on rfl rfl (yo_pure hT rfl)) ?_)
            refine rw_takeP 9 rfl rfl (by kernel_rfl) (by kernel_rfl) (by kernel_rfl) (by kernel_rfl) rfl (yo_on rfl rfl (yo_index hT rfl rfl rfl j rfl hlt)) ?_
            refine rw_take 10 rfl rfl (by kernel_rfl) (by kernel_rfl) (by kernel_rfl) (by kernel_rfl) rfl (yo_on rfl rfl (yo_load hT rfl rfl (fun w' hS => Ex.cell hS hcell))) ?_
            refine rw_one 11 rfl (by kernel_rfl) rfl (fun hcl => ?_)
            (repeat (refine lw_gon_t rfl ?_ ?_; focus (first | with_reducible rfl | with_reducible exact Bool.not_false | with_reducible exact Bool.not_true)))
            refine lw_call hT rfl rfl (r23_until (hE4.ex (hx9.trans hx10)) hk3) ?_
            rintro _ w11 ⟨rfl, hx11⟩
            (repeat (refine lw_nil ?_))
            refine qw_rw (by repeat (first | with_reducible refine nop_then ?_ | with_reducible refine nop_block ?_ | with_reducible exact nop_body)) hcl (fun _ => (hx9.trans hx10).trans hx11) ?_
            (refine rw_takeP 12 rfl rfl (by kernel_rfl) (by kernel_rfl) (by kernel_rfl) (by kernel_rfl) rfl (yo_on rfl rfl (yo_pure hT rfl)) ?_)
            (refine rw_takeP 13 rfl rfl (by kernel_rfl) (by kernel_rfl) (by kernel_rfl) (by kernel_rfl) rfl (yo_pure hT rfl) ?_)
            refine rw_done (by kernel_rfl) ?_
            (repeat (refine qw_then ?_))
            refine cw_cond rfl (fun h9 => ?_) (fun h9 => ?_)
            · (repeat (first | refine lw_pure hT rfl ?_ | refine lw_nil ?_ | refine cw_seq ?_ | refine cw_region ?_ | refine qw_then ?_ | refine cw_ret ?_ | refine qw_then_ret ?_ | refine qw_block_ret ?_))
              refine qw_ret rfl ⟨?_, ((hx04.trans hx9).trans hx10).trans hx11⟩
              have : wrongE x a = 6 := by unfold wrongE; rw [hb, hba, q2, q3, if_pos (List.any_eq_true.2 ⟨_, List.getElem_mem hlt, by rw [h8, h9]; rfl⟩)]; rfl
              rw [this]; rfl
            · (repeat (first | (refine lw_add rfl rfl ?_ ?_ ?_; iterate 2 omega) | refine lw_pure hT rfl ?_ | refine lw_nil ?_ | refine cw_region ?_ | refine qw_then ?_ | refine cw_skip ?_ | refine qw_block ?_))
              exact qw_round (j + 1) (by repeat (first | exact trivial | refine ⟨rfl, ?_⟩)) ⟨(hx9.trans hx10).trans hx11, hlt, step (by rw [h9]; simp)⟩ (by omega)
          · (refine rw_takeP 4 rfl rfl (by kernel_rfl) (by kernel_rfl) (by kernel_rfl) (by kernel_rfl) rfl (yo_off rfl rfl) ?_; refine rw_takeP 5 rfl rfl (by kernel_rfl) (by kernel_rfl) (by kernel_rfl) (by kernel_rfl) rfl (yo_off rfl rfl) ?_; refine rw_takeP 6 rfl rfl (by kernel_rfl) (by kernel_rfl) (by kernel_rfl) (by kernel_rfl) rfl (yo_off rfl rfl) ?_; refine rw_takeP 7 rfl rfl (by kernel_rfl) (by kernel_rfl) (by kernel_rfl) (by kernel_rfl) rfl (yo_off rfl rfl) ?_; refine rw_takeP 8 rfl rfl (by kernel_rfl) (by kernel_rfl) (by kernel_rfl) (by kernel_rfl) rfl (yo_off rfl rfl) ?_; refine rw_takeP 9 rfl rfl (by kernel_rfl) (by kernel_rfl) (by kernel_rfl) (by kernel_rfl) rfl (yo_off rfl rfl) ?_; refine rw_takeP 10 rfl rfl (by kernel_rfl) (by kernel_rfl) (by kernel_rfl) (by kernel_rfl) rfl (yo_off rfl rfl) ?_; refine rw_takeP 11 rfl rfl (by kernel_rfl) (by kernel_rfl) (by kernel_rfl) (by kernel_rfl) rfl (yo_off rfl rfl) ?_; refine rw_takeP 12 rfl rfl (by kernel_rfl) (by kernel_rfl) (by kernel_rfl) (by kernel_rfl) rfl (yo_off rfl rfl) ?_)
            (refine rw_takeP 13 rfl rfl (by kernel_rfl) (by kernel_rfl) (by kernel_rfl) (by kernel_rfl) rfl (yo_pure hT rfl) ?_)
            refine rw_done (by kernel_rfl) ?_
            (repeat (first | (refine lw_add rfl rfl ?_ ?_ ?_; iterate 2 omega) | refine lw_pure hT rfl ?_ | refine lw_nil ?_ | refine cw_region ?_ | refine qw_then ?_ | refine cw_skip ?_ | refine qw_block ?_ | (refine cw_cond_f rfl ?_ ?_; focus (first | with_reducible rfl | with_reducible exact Bool.not_false | with_reducible exact Bool.not_true))))
            exact qw_round (j + 1) (by repeat (first | exact trivial | refine ⟨rfl, ?_⟩)) ⟨hx9.trans hx10, hlt, step (by rw [h8]; rfl)⟩ (by omega)
        · have : j = (whichN a).length := by have := of_decide_eq_false h; omega
          subst this
          have q4 : (whichN a).any (fun k => decide (a.kind ≠ 3) && decide (a.day < untilD x.bill (papAt x k))) = false := by
            rw [List.any_eq_false]
            intro k hkm
            obtain ⟨j', hj', rfl⟩ := List.getElem_of_mem hkm
            rw [hno3 j' hj' hj']; decide
          (repeat (first | refine lw_pure hT rfl ?_ | refine lw_nil ?_ | refine cw_seq ?_ | refine cw_region ?_ | refine qw_then ?_ | refine cw_ret ?_ | refine cw_exit ?_ | refine qw_block_exit ?_ | refine qw_then_exit ?_))
          refine qw_ret rfl ⟨?_, hx04.trans hx9⟩
          have : wrongE x a = 0 := by unfold wrongE; rw [hb, hba, q2, q3, q4]; rfl
          rw [this]; rfl
end Go.Proofs.YtfbjpfgglgffgaaGreat
