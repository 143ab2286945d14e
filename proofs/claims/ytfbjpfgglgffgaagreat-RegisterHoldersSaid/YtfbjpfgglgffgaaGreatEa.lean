/- Contracts of package endorse: how a chain of endorsements stands. -/
import Derived.Test.YtfbjpfgglgffgaaGreatRl
set_option linter.unusedVariables false
set_option linter.unusedSimpArgs false
set_option linter.unusedSectionVars false
set_option linter.unnecessarySimpa false
namespace Go.SK
open Go
attribute [local semireducible] CW LW QW Ret Kn
section
variable {P : Program} {n : Nat} {fr : Fr} {w : World} {Q : Exit → Act → World → Prop}
theorem cw_mono {c : Code} {Q' : Exit → Act → World → Prop} (h : CW P c Q n fr w) (hq : ∀ e a w, Q e a w → Q' e a w) : CW P c Q' n fr w := fun a hk b k cs =>
  let ⟨e, a', w', h1, h2⟩ := h a hk b k cs
  ⟨e, a', w', hq _ _ _ h1, h2⟩
theorem cw_label {l : Nat} (h : QW Q .normal n fr w) : CW P (.label l) Q n fr w := fun a hk => wp_label (h a hk)
theorem cw_goto {l : Nat} (h : QW Q (.goto l) n fr w) : CW P (.goto l) Q n fr w := fun a hk => wp_goto (h a hk)
theorem qw_then_goto {K : Act → World → Prop} {l : Nat} (h : QW Q (.goto l) n fr w) : QW (Exit.then K Q) (.goto l) n fr w := h
theorem qw_jump {l : Nat} {J : Act → World → Prop} (h : QW Q .normal n fr w) : QW (Exit.jump l J Q) .normal n fr w := h
theorem qw_jump_ret {l : Nat} {J : Act → World → Prop} (h : QW Q .ret n fr w) : QW (Exit.jump l J Q) .ret n fr w := h
theorem nop_jump {l : Nat} {J : Act → World → Prop} (h : NoP Q) : NoP (Exit.jump l J Q) := h
theorem qw_jump_go {α : Type} {l : Nat} {F : α → Fr} {I : α → World → Prop} {μ : α → Nat} {x : α} (y : α) (hs : subB (F y) fr) (hI : I y w) (hlt : μ y < μ x) :
    QW (Exit.jump l (fun a w2 => ∃ y, Kn n (F y) a ∧ I y w2 ∧ μ y < μ x) Q) (.goto l) n fr w := fun _ hk => ⟨rfl, y, hk.sub (sub_of hs), hI, hlt⟩
/-- A label in a scope, to which the code behind it jumps back. -/
theorem cw_scope {α : Type} {c B : Code} (l : Nat) (F : α → Fr) (I : α → World → Prop) (μ : α → Nat) (hf : findLabel c l = some (.seq .skip B))
    (pass : ∀ x w', I x w' → CW P B (Exit.jump l (fun a w2 => ∃ y, Kn n (F y) a ∧ I y w2 ∧ μ y < μ x) Q) n (F x) w')
    (first : (∀ x fr' w', subB (F x) fr' → I x w' → CW P B (Exit.jump l (fun a w2 => ∃ y, Kn n (F y) a ∧ I y w2) Q) n fr' w') → CW P c (Exit.jump l (fun a w2 => ∃ y, Kn n (F y) a ∧ I y w2) Q) n fr w) :
    CW P (.scope c) Q n fr w := by
  have pass' : ∀ x w', I x w' → CW P (.seq .skip B) (Exit.jump l (fun a w2 => ∃ y, Kn n (F y) a ∧ I y w2 ∧ μ y < μ x) Q) n (F x) w' := fun x w' h => cw_seq (cw_skip (qw_then (pass x w' h)))
  have first' := first (fun x fr' w' hs hI => cw_sub hs (cw_mono (pass x w' hI) (fun e a w h => by
    cases e with
    | goto l' => obtain ⟨h1, y, h2, h3, _⟩ := h; exact ⟨h1, y, h2, h3⟩
    | _ => exact h)))
  intro a hk b k cs
  have hg : gotoIn l (.inScope c :: k) = some (.code (.seq .skip B) :: .inScope c :: k) := by simp [gotoIn, hf]
  have key : ∀ (m : Nat) (x : α) (a : Act) (w : World), μ x = m → Kn n (F x) a → I x w → ∃ e a' w', Q e a' w' ∧ Arrives P (lone (b.at a (.code (.seq .skip B) :: .inScope c :: k)) cs w) b k cs e a' w' := by
    intro m
    induction m using Nat.strongRecOn with
    | _ m ih =>
      intro x a w hm hk hI
      obtain ⟨e, a₁, w₁, hq, harr⟩ := pass' x w hI a hk b (.inScope c :: k) cs
      cases e with
      | normal => exact ⟨.normal, a₁, w₁, hq, Steps.trans harr (.one step_inScope)⟩
      | exit id => exact ⟨.exit id, a₁, w₁, hq, fun k' hk => harr k' (by simp [exitTo, hk])⟩
      | goto l' =>
        obtain ⟨rfl, y, hk1, hI1, hlt⟩ := hq
        obtain ⟨e₂, a₂, w₂, hq₂, harr₂⟩ := ih _ (by omega) y a₁ w₁ rfl hk1 hI1
        exact ⟨e₂, a₂, w₂, hq₂, .of_steps (harr _ hg) harr₂⟩
      | ret => exact ⟨_, a₁, w₁, hq, harr⟩
      | panic ch => exact ⟨_, a₁, w₁, hq, harr⟩
      | outgrown => exact ⟨_, a₁, w₁, hq, harr⟩
  obtain ⟨e, a₁, w₁, hq, harr⟩ := first' a hk b (.inScope c :: k) cs
  cases e with
  | normal => exact ⟨.normal, a₁, w₁, hq, .head step_scope (Steps.trans harr (.one step_inScope))⟩
  | exit id => exact ⟨.exit id, a₁, w₁, hq, fun k' hk => .head step_scope (harr k' (by simp [exitTo, hk]))⟩
  | goto l' =>
    obtain ⟨rfl, y, hk1, hI1⟩ := hq
    obtain ⟨e₂, a₂, w₂, hq₂, harr₂⟩ := key _ y a₁ w₁ rfl hk1 hI1
    exact ⟨e₂, a₂, w₂, hq₂, .of_steps (.head step_scope (harr _ hg)) harr₂⟩
  | ret => exact ⟨_, a₁, w₁, hq, .of_steps (.one step_scope) harr⟩
  | panic ch => exact ⟨_, a₁, w₁, hq, .of_steps (.one step_scope) harr⟩
  | outgrown => exact ⟨_, a₁, w₁, hq, .of_steps (.one step_scope) harr⟩
end
end Go.SK
namespace Go.Proofs.YtfbjpfgglgffgaaGreat
open Go Go.SK

structure ChD where
  holder : ByteArray
  blank : Bool
  ended : Bool
  day : Int
def endB (x : EndD) : Bool :=
  nameB x.frm && (decide (0 ≤ x.day) && decide (x.day ≤ 1048576)) && (if x.kind = 0 ∨ x.kind = 2 then nameB x.to_ && decide (x.to_ ≠ x.frm) else decide (x.kind = 1) && decide (x.to_ = ⟨#[]⟩))
def wrongC (c : ChD) (x : EndD) : Int := if !endB x then 2 else if c.ended then 9 else if !c.blank && decide (x.frm ≠ c.holder) then 8 else if x.day < c.day then 6 else 0
def onC (x : EndD) : ChD := ⟨x.to_, decide (x.kind = 1), decide (x.kind = 2), x.day⟩
def zeroC : ChD := ⟨⟨#[]⟩, false, false, 0⟩
def goC (c : ChD) (at_ : Nat) : List EndD → ChD × Nat × Int
  | [] => (c, at_, 0)
  | x :: l => if wrongC c x ≠ 0 then (zeroC, at_, wrongC c x) else goC (onC x) (at_ + 1) l
def followC (first : ByteArray) (l : List EndD) : ChD × Nat × Int := if nameB first then goC ⟨first, false, false, 0⟩ 0 l else (zeroC, 0, 1)
def encC (c : ChD) : List Value := [.string c.holder, .bool c.blank, .bool c.ended, .int .i64 c.day]
/-- The texts of an endorsement are as long as texts may be. -/
structure EndD.Ok (x : EndD) : Prop where
  frm : x.frm.size ≤ maxLen
  to_ : x.to_.size ≤ maxLen
theorem end_right (x : EndD) (w : World) (hx : x.Ok) : Ret Tryz.prog 104 [.agg ⟨encE x⟩] w fun v w' => v = .bool (endB x) ∧ Ex w w' := by
  refine ret_of Tryz.func104 Tryz.ntmps104 rfl rfl rfl ?_
  (repeat (first | refine cw_seq ?_ | refine cw_region ?_))
  refine lw_box rfl ?_
  intro b w1 hbb hb hx1 hs1
  replace hb : Blk w1 b (encE x) 104 := hb
  (repeat (first | refine lw_pure hT rfl ?_ | refine lw_nil ?_ | refine cw_seq ?_ | refine cw_region ?_ | refine qw_then ?_))
  refine lw_load hT rfl rfl (v := .string x.frm) (hb.cell 0) ?_
  skip
  refine lw_call hT rfl rfl (mark_Name _ w1 hx.frm) ?_
  rintro _ _ ⟨rfl, rfl⟩
  (repeat (refine lw_pure hT rfl ?_))
  refine lw_guard rfl (fun h1 => ?_) (fun h1 => ?_)
  · (repeat (first | refine lw_pure hT rfl ?_ | refine lw_nil ?_ | refine cw_seq ?_ | refine cw_region ?_ | refine qw_then ?_ | refine cw_ret ?_ | refine qw_then_ret ?_ | (refine lw_goff_t rfl ?_ ?_; focus (first | with_reducible rfl | with_reducible exact Bool.not_false | with_reducible exact Bool.not_true)) | (refine cw_cond_t rfl ?_ ?_; focus (first | with_reducible rfl | with_reducible exact Bool.not_false | with_reducible exact Bool.not_true))))
    rw [Bool.not_eq_true'] at h1
    exact qw_ret rfl ⟨by simp [oneOr, endB, h1], hx1⟩
  · rw [Bool.not_eq_false'] at h1
    (repeat (first | refine lw_pure hT rfl ?_ | (refine lw_gon_f rfl ?_ ?_; focus (first | with_reducible rfl | with_reducible exact Bool.not_false | with_reducible exact Bool.not_true))))
    refine lw_load hT rfl rfl (v := .int .i64 x.day) (hb.cell 3) ?_
    (repeat (first | refine lw_pure hT rfl ?_ | (refine lw_gon_f rfl ?_ ?_; focus (first | with_reducible rfl | with_reducible exact Bool.not_false | with_reducible exact Bool.not_true))))
    refine lw_guard rfl (fun h2 => ?_) (fun h2 => ?_)
    · (repeat (first | refine lw_pure hT rfl ?_ | refine lw_nil ?_ | refine cw_seq ?_ | refine cw_region ?_ | refine qw_then ?_ | refine cw_ret ?_ | refine qw_then_ret ?_ | (refine lw_goff_t rfl ?_ ?_; focus (first | with_reducible rfl | with_reducible exact Bool.not_false | with_reducible exact Bool.not_true)) | (refine cw_cond_t rfl ?_ ?_; focus (first | with_reducible rfl | with_reducible exact Bool.not_false | with_reducible exact Bool.not_true))))
      refine qw_ret rfl ⟨?_, hx1⟩
      simp at h2
      have : ¬ 0 ≤ x.day := by omega
      simp [oneOr, endB, this]
    · (repeat (first | refine lw_pure hT rfl ?_ | (refine lw_gon_f rfl ?_ ?_; focus (first | with_reducible rfl | with_reducible exact Bool.not_false | with_reducible exact Bool.not_true))))
      refine lw_load hT rfl rfl (v := .int .i64 x.day) (hb.cell 3) ?_
      (repeat (first | refine lw_pure hT rfl ?_ | refine lw_nil ?_ | refine qw_then ?_ | (refine lw_gon_f rfl ?_ ?_; focus (first | with_reducible rfl | with_reducible exact Bool.not_false | with_reducible exact Bool.not_true))))
      refine cw_cond rfl (fun h3 => ?_) (fun h3 => ?_)
      · (repeat (first | refine lw_pure hT rfl ?_ | refine lw_nil ?_ | refine cw_seq ?_ | refine cw_region ?_ | refine qw_then ?_ | refine cw_ret ?_ | refine qw_then_ret ?_))
        refine qw_ret rfl ⟨?_, hx1⟩
        simp at h3
        have : ¬ x.day ≤ 1048576 := by omega
        simp [oneOr, endB, this]
      · have hd : (decide (0 ≤ x.day) && decide (x.day ≤ 1048576)) = true := by simp at h2 h3 ⊢; omega
        (repeat (first | refine lw_pure hT rfl ?_ | refine cw_seq ?_ | refine cw_region ?_ | refine qw_then ?_ | refine cw_skip ?_))
        refine lw_load hT rfl rfl (v := .int .i64 x.kind) (hb.cell 2) ?_
        have hfd : (nameB x.frm && (decide (0 ≤ x.day) && decide (x.day ≤ 1048576))) = true := by rw [h1, hd]; rfl
        have order : (x.kind = 0 ∨ x.kind = 2) → endB x = (nameB x.to_ && decide (x.to_ ≠ x.frm)) := fun h => by unfold endB; rw [hfd, if_pos h]; rfl
        have other : ¬ (x.kind = 0 ∨ x.kind = 2) → endB x = (decide (x.kind = 1) && decide (x.to_ = ⟨#[]⟩)) := fun h => by unfold endB; rw [hfd, if_neg h]; rfl
        (repeat (first | refine lw_pure hT rfl ?_ | refine lw_nil ?_ | refine cw_seq ?_ | refine cw_region ?_ | refine qw_then ?_ | refine cw_block ?_))
        refine cw_cond rfl (fun h40 => ?_) (fun h40 => ?_)
        · have h4 : x.kind = 0 ∨ x.kind = 2 := by simp at h40; exact .inl h40
          (repeat (first | refine qw_then ?_ | refine cw_skip ?_))
          refine cw_cond_t rfl h40 ?_
          (repeat (first | refine lw_pure hT rfl ?_ | refine cw_seq ?_ | refine cw_region ?_))
          refine lw_load hT rfl rfl (v := .string x.to_) (hb.cell 1) ?_
          skip
          refine lw_call hT rfl rfl (mark_Name _ w1 hx.to_) ?_
          rintro _ _ ⟨rfl, rfl⟩
          (repeat (refine lw_pure hT rfl ?_))
          refine lw_guard rfl (fun h5 => ?_) (fun h5 => ?_)
          · (repeat (first | refine lw_pure hT rfl ?_ | (refine lw_gon_t rfl ?_ ?_; focus (first | with_reducible rfl | with_reducible exact Bool.not_false | with_reducible exact Bool.not_true))))
            refine lw_load hT rfl rfl (v := .string x.to_) (hb.cell 1) ?_
            (repeat (first | refine lw_pure hT rfl ?_ | (refine lw_gon_t rfl ?_ ?_; focus (first | with_reducible rfl | with_reducible exact Bool.not_false | with_reducible exact Bool.not_true))))
            refine lw_load hT rfl rfl (v := .string x.frm) (hb.cell 0) ?_
            (repeat (first | refine lw_pure hT rfl ?_ | refine lw_nil ?_ | refine qw_then ?_ | refine cw_ret ?_ | refine qw_then_ret ?_ | (refine lw_gon_t rfl ?_ ?_; focus (first | with_reducible rfl | with_reducible exact Bool.not_false | with_reducible exact Bool.not_true)) | refine qw_block_ret ?_))
            exact qw_ret rfl ⟨by rw [order h4, h5]; rfl, hx1⟩
          · (repeat (first | refine lw_pure hT rfl ?_ | refine lw_nil ?_ | refine qw_then ?_ | refine cw_ret ?_ | refine qw_then_ret ?_ | (refine lw_goff_f rfl ?_ ?_; focus (first | with_reducible rfl | with_reducible exact Bool.not_false | with_reducible exact Bool.not_true)) | refine qw_block_ret ?_))
            exact qw_ret rfl ⟨by rw [order h4, h5]; rfl, hx1⟩
        · (repeat (first | refine lw_pure hT rfl ?_ | refine lw_nil ?_ | refine cw_region ?_ | refine qw_then ?_))
          refine cw_cond rfl (fun h4' => ?_) (fun h4' => ?_)
          · have h4 : x.kind = 0 ∨ x.kind = 2 := by simp at h4'; exact .inr h4'
            (repeat (first | refine lw_pure hT rfl ?_ | refine cw_seq ?_ | refine cw_region ?_))
            refine lw_load hT rfl rfl (v := .string x.to_) (hb.cell 1) ?_
            skip
            refine lw_call hT rfl rfl (mark_Name _ w1 hx.to_) ?_
            rintro _ _ ⟨rfl, rfl⟩
            (repeat (refine lw_pure hT rfl ?_))
            refine lw_guard rfl (fun h5 => ?_) (fun h5 => ?_)
            · (repeat (first | refine lw_pure hT rfl ?_ | (refine lw_gon_t rfl ?_ ?_; focus (first | with_reducible rfl | with_reducible exact Bool.not_false | with_reducible exact Bool.not_true))))
              refine lw_load hT rfl rfl (v := .string x.to_) (hb.cell 1) ?_
              (repeat (first | refine lw_pure hT rfl ?_ | (refine lw_gon_t rfl ?_ ?_; focus (first | with_reducible rfl | with_reducible exact Bool.not_false | with_reducible exact Bool.not_true))))
              refine lw_load hT rfl rfl (v := .string x.frm) (hb.cell 0) ?_
              (repeat (first | refine lw_pure hT rfl ?_ | refine lw_nil ?_ | refine qw_then ?_ | refine cw_ret ?_ | refine qw_then_ret ?_ | (refine lw_gon_t rfl ?_ ?_; focus (first | with_reducible rfl | with_reducible exact Bool.not_false | with_reducible exact Bool.not_true)) | refine qw_block_ret ?_))
              exact qw_ret rfl ⟨by rw [order h4, h5]; rfl, hx1⟩
            · (repeat (first | refine lw_pure hT rfl ?_ | refine lw_nil ?_ | refine qw_then ?_ | refine cw_ret ?_ | refine qw_then_ret ?_ | (refine lw_goff_f rfl ?_ ?_; focus (first | with_reducible rfl | with_reducible exact Bool.not_false | with_reducible exact Bool.not_true)) | refine qw_block_ret ?_))
              exact qw_ret rfl ⟨by rw [order h4, h5]; rfl, hx1⟩
          · have h4 : ¬ (x.kind = 0 ∨ x.kind = 2) := by simp at h40 h4'; omega
            (repeat (first | refine lw_pure hT rfl ?_ | refine lw_nil ?_ | refine cw_seq ?_ | refine cw_region ?_ | refine qw_then ?_))
            refine cw_cond rfl (fun h5 => ?_) (fun h5 => ?_)
            · (repeat (first | refine lw_pure hT rfl ?_ | refine cw_seq ?_ | refine cw_region ?_))
              refine lw_load hT rfl rfl (v := .string x.to_) (hb.cell 1) ?_
              (repeat (first | refine lw_pure hT rfl ?_ | refine lw_nil ?_ | refine qw_then ?_ | refine cw_ret ?_ | refine qw_then_ret ?_ | refine qw_block_ret ?_))
              exact qw_ret rfl ⟨by rw [other h4, h5]; rfl, hx1⟩
            · (repeat (first | refine lw_pure hT rfl ?_ | refine lw_nil ?_ | refine cw_seq ?_ | refine cw_region ?_ | refine qw_then ?_ | refine cw_ret ?_ | refine cw_skip ?_ | refine qw_block ?_))
              exact qw_ret rfl ⟨by rw [other h4, h5]; rfl, hx1⟩
theorem end_wrong (c : ChD) (x : EndD) (w : World) (hx : x.Ok) : Ret Tryz.prog 76 [.agg ⟨encC c⟩, .agg ⟨encE x⟩] w fun v w' => v = .int .i64 (wrongC c x) ∧ Ex w w' := by
  refine ret_of Tryz.func76 Tryz.ntmps76 rfl rfl rfl ?_
  (repeat (first | refine cw_seq ?_ | refine cw_region ?_))
  refine lw_box rfl ?_
  intro bc w1 hbc hb1 hx1 hs1
  replace hb1 : Blk w1 bc (encC c) 106 := hb1
  skip
  refine lw_box rfl ?_
  intro bx w2 hbx hb2 hx2 hs2
  replace hb2 : Blk w2 bx (encE x) 104 := hb2
  have hc2 := hb1.ex hx2
  (repeat (first | refine lw_pure hT rfl ?_ | refine lw_nil ?_ | refine cw_seq ?_ | refine cw_region ?_ | refine qw_then ?_ | refine cw_block ?_))
  refine lw_load_agg hT rfl rfl rfl (vs := encE x) (hb2.rd 0 4) ?_
  skip
  refine lw_call hT rfl rfl (end_right x w2 hx) ?_
  rintro _ w3 ⟨rfl, hx3⟩
  have hx13 := (hx1.trans hx2).trans hx3
  have hc3 := hc2.ex hx3
  have hb3 := hb2.ex hx3
  (repeat (first | refine lw_pure hT rfl ?_ | refine lw_nil ?_ | refine qw_then ?_))
  refine cw_cond rfl (fun h1 => ?_) (fun h1 => ?_)
  · (repeat (first | refine lw_pure hT rfl ?_ | refine lw_nil ?_ | refine cw_seq ?_ | refine cw_region ?_ | refine qw_then ?_ | refine cw_ret ?_ | refine qw_then_ret ?_ | refine qw_block_ret ?_))
    exact qw_ret rfl ⟨by simp only [wrongC, h1]; rfl, hx13⟩
  · (repeat (first | refine lw_pure hT rfl ?_ | refine cw_seq ?_ | refine cw_region ?_))
    refine lw_load hT rfl rfl (v := .bool c.ended) (hc3.cell 2) ?_
    (repeat (first | refine lw_pure hT rfl ?_ | refine lw_nil ?_ | refine qw_then ?_))
    refine cw_cond rfl (fun h2 => ?_) (fun h2 => ?_)
    · (repeat (first | refine lw_pure hT rfl ?_ | refine lw_nil ?_ | refine cw_seq ?_ | refine cw_region ?_ | refine qw_then ?_ | refine cw_ret ?_ | refine qw_then_ret ?_ | refine qw_block_ret ?_))
      exact qw_ret rfl ⟨by simp only [wrongC, h1, h2]; rfl, hx13⟩
    · (repeat (first | refine lw_pure hT rfl ?_ | refine cw_seq ?_ | refine cw_region ?_))
      refine lw_load hT rfl rfl (v := .bool c.blank) (hc3.cell 1) ?_
      (repeat (refine lw_pure hT rfl ?_))
      have last : ∀ (hh : (!c.blank && decide (x.frm ≠ c.holder)) = false), wrongC c x = if x.day < c.day then 6 else 0 := fun hh => by simp only [wrongC, h1, h2, hh]; rfl
      refine lw_guard rfl (fun h3 => ?_) (fun h3 => ?_)
      · (repeat (first | refine lw_pure hT rfl ?_ | (refine lw_gon_t rfl ?_ ?_; focus (first | with_reducible rfl | with_reducible exact Bool.not_false | with_reducible exact Bool.not_true))))
        refine lw_load hT rfl rfl (v := .string x.frm) (hb3.cell 0) ?_
        (repeat (first | refine lw_pure hT rfl ?_ | (refine lw_gon_t rfl ?_ ?_; focus (first | with_reducible rfl | with_reducible exact Bool.not_false | with_reducible exact Bool.not_true))))
        refine lw_load hT rfl rfl (v := .string c.holder) (hc3.cell 0) ?_
        (repeat (first | refine lw_pure hT rfl ?_ | refine lw_nil ?_ | refine qw_then ?_ | (refine lw_gon_t rfl ?_ ?_; focus (first | with_reducible rfl | with_reducible exact Bool.not_false | with_reducible exact Bool.not_true))))
        refine cw_cond rfl (fun h4 => ?_) (fun h4 => ?_)
        · (repeat (first | refine lw_pure hT rfl ?_ | refine lw_nil ?_ | refine cw_seq ?_ | refine cw_region ?_ | refine qw_then ?_ | refine cw_ret ?_ | refine qw_then_ret ?_ | refine qw_block_ret ?_))
          exact qw_ret rfl ⟨by simp only [wrongC, h1, h2, h3, h4]; rfl, hx13⟩
        · have l := last (by rw [h3, h4]; rfl)
          (repeat (first | refine lw_pure hT rfl ?_ | refine cw_seq ?_ | refine cw_region ?_))
          refine lw_load hT rfl rfl (v := .int .i64 x.day) (hb3.cell 3) ?_
          (repeat (refine lw_pure hT rfl ?_))
          refine lw_load hT rfl rfl (v := .int .i64 c.day) (hc3.cell 3) ?_
          (repeat (first | refine lw_pure hT rfl ?_ | refine lw_nil ?_ | refine qw_then ?_))
          refine cw_cond rfl (fun h5 => ?_) (fun h5 => ?_)
          · (repeat (first | refine lw_pure hT rfl ?_ | refine lw_nil ?_ | refine cw_seq ?_ | refine cw_region ?_ | refine qw_then ?_ | refine cw_ret ?_ | refine qw_then_ret ?_ | refine qw_block_ret ?_))
            exact qw_ret rfl ⟨by rw [l, if_pos (by simpa using h5)]; rfl, hx13⟩
          · (repeat (first | refine lw_pure hT rfl ?_ | refine lw_nil ?_ | refine cw_seq ?_ | refine cw_region ?_ | refine qw_then ?_ | refine cw_ret ?_ | refine cw_skip ?_ | refine qw_block ?_))
            exact qw_ret rfl ⟨by rw [l, if_neg (by simpa using h5)]; rfl, hx13⟩
      · have l := last (by rw [h3]; rfl)
        (repeat (first | refine lw_pure hT rfl ?_ | refine lw_nil ?_ | refine cw_seq ?_ | refine cw_region ?_ | refine qw_then ?_ | (refine lw_goff_f rfl ?_ ?_; focus (first | with_reducible rfl | with_reducible exact Bool.not_false | with_reducible exact Bool.not_true)) | (refine cw_cond_f rfl ?_ ?_; focus (first | with_reducible rfl | with_reducible exact Bool.not_false | with_reducible exact Bool.not_true))))
        refine lw_load hT rfl rfl (v := .int .i64 x.day) (hb3.cell 3) ?_
        (repeat (refine lw_pure hT rfl ?_))
        refine lw_load hT rfl rfl (v := .int .i64 c.day) (hc3.cell 3) ?_
        (repeat (first | refine lw_pure hT rfl ?_ | refine lw_nil ?_ | refine qw_then ?_))
        refine cw_cond rfl (fun h5 => ?_) (fun h5 => ?_)
        · (repeat (first | refine lw_pure hT rfl ?_ | refine lw_nil ?_ | refine cw_seq ?_ | refine cw_region ?_ | refine qw_then ?_ | refine cw_ret ?_ | refine qw_then_ret ?_ | refine qw_block_ret ?_))
          exact qw_ret rfl ⟨by rw [l, if_pos (by simpa using h5)]; rfl, hx13⟩
        · (repeat (first | refine lw_pure hT rfl ?_ | refine lw_nil ?_ | refine cw_seq ?_ | refine cw_region ?_ | refine qw_then ?_ | refine cw_ret ?_ | refine cw_skip ?_ | refine qw_block ?_))
          exact qw_ret rfl ⟨by rw [l, if_neg (by simpa using h5)]; rfl, hx13⟩
theorem end_on (x : EndD) (w : World) : Ret Tryz.prog 77 [.agg ⟨encE x⟩] w fun v w' => v = .agg ⟨encC (onC x)⟩ ∧ Ex w w' := by
  refine ret_of Tryz.func77 Tryz.ntmps77 rfl rfl rfl ?_
  (repeat (first | refine cw_seq ?_ | refine cw_region ?_))
  refine lw_box rfl ?_
  intro bx w1 hbx hb1 hx1 hs1
  replace hb1 : Blk w1 bx (encE x) 104 := hb1
  skip
  refine lw_alloc z106 ?_
  intro bc w2 hbc hb2 hx2 hs2
  have hb := hb1.ex hx2
  (repeat (first | refine lw_pure hT rfl ?_ | refine lw_nil ?_ | refine cw_seq ?_ | refine cw_region ?_ | refine qw_then ?_))
  refine lw_load hT rfl rfl (v := .string x.to_) (hb.cell 1) ?_
  (repeat (refine lw_pure hT rfl ?_))
  refine lw_load hT rfl rfl (v := .int .i64 x.kind) (hb.cell 2) ?_
  (repeat (refine lw_pure hT rfl ?_))
  refine lw_load hT rfl rfl (v := .int .i64 x.kind) (hb.cell 2) ?_
  (repeat (refine lw_pure hT rfl ?_))
  refine lw_load hT rfl rfl (v := .int .i64 x.day) (hb.cell 3) ?_
  skip
  refine lw_build bt106 rfl ?_
  skip
  refine lw_store_agg hT rfl rfl rfl rfl (by intro v hv; simp at hv; rcases hv with rfl | rfl | rfl | rfl <;> rfl) hb2 (show (4 : Nat) ≤ 4 by decide) ?_
  intro w3 hb3 hx3 hs3
  (repeat (first | refine lw_nil ?_ | refine qw_then ?_ | refine cw_ret ?_))
  exact qw_ret_cell hT rfl rfl rfl rfl (vs := encC (onC x)) (hb3.rd 0 4) rfl ⟨rfl, (hx1.trans hx2).up_new hx3 (fun i hi => by omega)⟩
end Go.Proofs.YtfbjpfgglgffgaaGreat
