/- Contracts of package register, ninth part: the search for a bill and its originals, if an act may be done. -/
import Derived.Test.YtfbjpfgglgffgaaGreatRh
set_option linter.unusedVariables false
set_option linter.unusedSimpArgs false
set_option linter.unusedSectionVars false
set_option linter.unnecessarySimpa false
namespace Go.Proofs.YtfbjpfgglgffgaaGreat
open Go Go.SK

section
variable {P : Program} {T : Tab} {n : Nat} {fr : Fr} {w : World} {Q : Exit → Act → World → Prop} {ops : Array Oper} {S : World → Prop}
theorem yo_lookup_ok_some {d t e b : Nat} {z v : Value} {es : List (ByteArray × Value)} {ks : ByteArray} {x y : Operand} {ty : TypeId} {ps : String} {af : Array Edge} (hM : MpT P t e z) (hx : ev n fr x = some (.map (some b))) (hy : ev n fr y = some (.string ks)) (hm : ∀ w, S w → Mp w b es)
    (hg : mget es ks = some v) : YO P ops S n fr { dst := some d, op := .lookup t x y true, type := ty, pos := ps, after := af, guard := none } (.tuple #[v, .bool true]) := by
  have := yo_lookup_ok (ops := ops) (d := d) (ty := ty) (ps := ps) (af := af) hM hx hy hm
  rw [hg] at this; exact this
theorem yo_lookup_ok_none {d t e b : Nat} {z : Value} {es : List (ByteArray × Value)} {ks : ByteArray} {x y : Operand} {ty : TypeId} {ps : String} {af : Array Edge} (hM : MpT P t e z) (hx : ev n fr x = some (.map (some b))) (hy : ev n fr y = some (.string ks)) (hm : ∀ w, S w → Mp w b es)
    (hg : mget es ks = none) : YO P ops S n fr { dst := some d, op := .lookup t x y true, type := ty, pos := ps, after := af, guard := none } (.tuple #[z, .bool false]) := by
  have := yo_lookup_ok (ops := ops) (d := d) (ty := ty) (ps := ps) (af := af) hM hx hy hm
  rw [hg] at this; exact this
end

def encA (a : AskD) : List Value := [.string a.bill, .string a.by_, .int .i64 a.index, .int .i64 a.state, .bool a.dated, .int .i64 a.day, .string a.to_, .bool a.given]
/-- What the questions look at. -/
structure Ctx (w : World) (a : AskD) (x : EntD) (g : GhostE) (vl : Value) (b3 b7 b9 b10 : Nat) : Prop where
  act : Blk w b3 (encA a) 123
  ent : Blk w b7 [.pointer (some ⟨g.e, 0, none⟩)] 79
  lst : Blk w b9 [vl] 119
  any : Blk w b10 [.func (.func 83) #[] #[.pointer (some ⟨b9, 0, none⟩)]] 146
  E : EntOk w x g
  row : Sl (fun _ => True) w vl 1 ((ixs a.index).map fun k => [ptrP g.e k])
theorem Ctx.ex {w w' : World} {a : AskD} {x : EntD} {g : GhostE} {vl : Value} {b3 b7 b9 b10 : Nat} (h : Ctx w a x g vl b3 b7 b9 b10) (hx : Ex w w') : Ctx w' a x g vl b3 b7 b9 b10 :=
  ⟨h.act.ex hx, h.ent.ex hx, h.lst.ex hx, h.any.ex hx, h.E.ex hx, h.row.ex hx⟩
/-- The original at an index that is chosen. -/
def papAt (x : EntD) (k : Nat) : PapD := x.ps.getD k default
theorem papAt_get {x : EntD} (h : x.ps.length = 3) {k : Nat} (hk : k < 3) : x.ps[k]? = some (papAt x k) := by
  simp [papAt, List.getD_eq_getElem?_getD, h, hk]

section
variable {w : World} {a : AskD} {x : EntD} {g : GhostE} {vl : Value} {b3 b7 b9 b10 : Nat}
theorem Ctx.pap (hC : Ctx w a x g vl b3 b7 b9 b10) {k : Nat} (hk : k < 3) : ∃ vc, w.cell? ⟨g.e, 10 + k * 3, none⟩ = some (.int .i64 (papAt x k).state) ∧ w.cell? ⟨g.e, 10 + k * 3 + 1, none⟩ = some (.string (papAt x k).holder) ∧ w.cell? ⟨g.e, 10 + k * 3 + 2, none⟩ = some vc := by
  obtain ⟨q, vc, g1, g2, g3, g4, g5⟩ := entCells_paper hC.E.three hC.E.three' hk
  rw [papAt_get hC.E.three hk] at g1; cases g1
  exact ⟨vc, (hC.E.blk.cell _).trans g3, (hC.E.blk.cell _).trans g4, (hC.E.blk.cell _).trans g5⟩
theorem find_41 (hC : Ctx w a x g vl b3 b7 b9 b10) {k : Nat} (hk : k < 3) : Ret Tryz.prog 88 ([] ++ [ptrP g.e k] ++ [.pointer (some ⟨b3, 0, none⟩)]) w fun v w' => v = .bool (decide ((papAt x k).state ≠ a.state)) ∧ Ex w w' := by
  obtain ⟨vc, h1, h2, h3⟩ := hC.pap hk
  unfold ptrP
  refine ret_of Tryz.func88 Tryz.ntmps88 rfl rfl rfl ?_
  (repeat (first | refine lw_pure hT rfl ?_ | refine lw_nil ?_ | refine cw_seq ?_ | refine cw_region ?_ | refine qw_then ?_))
  refine cw_draw hM (fun w' => Ex w w') [] rfl rfl (by repeat (first | with_reducible refine nop_then ?_ | with_reducible refine nop_block ?_ | with_reducible exact nop_body)) (fun w1 hx1 _ => ⟨hx1, ?_⟩)
  (refine rw_takeP 0 rfl rfl (by kernel_rfl) (by kernel_rfl) (by kernel_rfl) (by kernel_rfl) rfl (yo_pure hT rfl) ?_; refine rw_takeP 1 rfl rfl (by kernel_rfl) (by kernel_rfl) (by kernel_rfl) (by kernel_rfl) rfl (yo_pure hT rfl) ?_; refine rw_takeP 2 rfl rfl (by kernel_rfl) (by kernel_rfl) (by kernel_rfl) (by kernel_rfl) rfl (yo_pure hT rfl) ?_)
  refine rw_take 3 rfl rfl (by kernel_rfl) (by kernel_rfl) (by kernel_rfl) (by kernel_rfl) rfl (yo_load hT rfl rfl (fun w' hS => Ex.cell hS h1)) ?_
  (refine rw_takeP 4 rfl rfl (by kernel_rfl) (by kernel_rfl) (by kernel_rfl) (by kernel_rfl) rfl (yo_pure hT rfl) ?_)
  refine rw_take 5 rfl rfl (by kernel_rfl) (by kernel_rfl) (by kernel_rfl) (by kernel_rfl) rfl (yo_load hT rfl rfl (fun w' hS => Ex.cell hS (hC.act.cell 3))) ?_
  (refine rw_takeP 6 rfl rfl (by kernel_rfl) (by kernel_rfl) (by kernel_rfl) (by kernel_rfl) rfl (yo_pure hT rfl) ?_; refine rw_takeP 7 rfl rfl (by kernel_rfl) (by kernel_rfl) (by kernel_rfl) (by kernel_rfl) rfl (yo_pure hT rfl) ?_)
  refine rw_done (by kernel_rfl) ?_
  (repeat (first | refine qw_then ?_ | refine cw_ret ?_))
  exact qw_ret rfl ⟨rfl, hx1⟩
theorem find_51 (hC : Ctx w a x g vl b3 b7 b9 b10) {k : Nat} (hk : k < 3) : Ret Tryz.prog 90 ([] ++ [ptrP g.e k] ++ [.pointer (some ⟨b3, 0, none⟩)]) w fun v w' => v = .bool (decide ((papAt x k).holder ≠ a.by_)) ∧ Ex w w' := by
  obtain ⟨vc, h1, h2, h3⟩ := hC.pap hk
  unfold ptrP
  refine ret_of Tryz.func90 Tryz.ntmps90 rfl rfl rfl ?_
  (repeat (first | refine lw_pure hT rfl ?_ | refine lw_nil ?_ | refine cw_seq ?_ | refine cw_region ?_ | refine qw_then ?_))
  refine cw_draw hM (fun w' => Ex w w') [] rfl rfl (by repeat (first | with_reducible refine nop_then ?_ | with_reducible refine nop_block ?_ | with_reducible exact nop_body)) (fun w1 hx1 _ => ⟨hx1, ?_⟩)
  (refine rw_takeP 0 rfl rfl (by kernel_rfl) (by kernel_rfl) (by kernel_rfl) (by kernel_rfl) rfl (yo_pure hT rfl) ?_; refine rw_takeP 1 rfl rfl (by kernel_rfl) (by kernel_rfl) (by kernel_rfl) (by kernel_rfl) rfl (yo_pure hT rfl) ?_; refine rw_takeP 2 rfl rfl (by kernel_rfl) (by kernel_rfl) (by kernel_rfl) (by kernel_rfl) rfl (yo_pure hT rfl) ?_)
  refine rw_take 3 rfl rfl (by kernel_rfl) (by kernel_rfl) (by kernel_rfl) (by kernel_rfl) rfl (yo_load hT rfl rfl (fun w' hS => Ex.cell hS h2)) ?_
  (refine rw_takeP 4 rfl rfl (by kernel_rfl) (by kernel_rfl) (by kernel_rfl) (by kernel_rfl) rfl (yo_pure hT rfl) ?_)
  refine rw_take 5 rfl rfl (by kernel_rfl) (by kernel_rfl) (by kernel_rfl) (by kernel_rfl) rfl (yo_load hT rfl rfl (fun w' hS => Ex.cell hS (hC.act.cell 1))) ?_
  (refine rw_takeP 6 rfl rfl (by kernel_rfl) (by kernel_rfl) (by kernel_rfl) (by kernel_rfl) rfl (yo_pure hT rfl) ?_; refine rw_takeP 7 rfl rfl (by kernel_rfl) (by kernel_rfl) (by kernel_rfl) (by kernel_rfl) rfl (yo_pure hT rfl) ?_)
  refine rw_done (by kernel_rfl) ?_
  (repeat (first | refine qw_then ?_ | refine cw_ret ?_))
  exact qw_ret rfl ⟨rfl, hx1⟩
theorem find_61 (hC : Ctx w a x g vl b3 b7 b9 b10) {k : Nat} (hk : k < 3) : Ret Tryz.prog 92 ([] ++ [ptrP g.e k] ++ [.pointer (some ⟨b3, 0, none⟩), .pointer (some ⟨b7, 0, none⟩)]) w fun v w' =>
    v = .bool (decide (a.day < untilD x.bill (papAt x k))) ∧ Ex w w' := by
  refine ret_of Tryz.func92 Tryz.ntmps92 rfl rfl rfl ?_
  (repeat (first | refine lw_pure hT rfl ?_ | refine lw_nil ?_ | refine cw_seq ?_ | refine cw_region ?_ | refine qw_then ?_))
  refine cw_draw hM (fun w' => Ex w w') [] rfl rfl (by repeat (first | with_reducible refine nop_then ?_ | with_reducible refine nop_block ?_ | with_reducible exact nop_body)) (fun w1 hx1 _ => ⟨hx1, ?_⟩)
  (refine rw_takeP 0 rfl rfl (by kernel_rfl) (by kernel_rfl) (by kernel_rfl) (by kernel_rfl) rfl (yo_pure hT rfl) ?_)
  refine rw_take 1 rfl rfl (by kernel_rfl) (by kernel_rfl) (by kernel_rfl) (by kernel_rfl) rfl (yo_load hT rfl rfl (fun w' hS => Ex.cell hS (hC.act.cell 5))) ?_
  refine rw_take 2 rfl rfl (by kernel_rfl) (by kernel_rfl) (by kernel_rfl) (by kernel_rfl) rfl (yo_load hT rfl rfl (fun w' hS => Ex.cell hS (hC.ent.cell 0))) ?_
  (refine rw_takeP 3 rfl rfl (by kernel_rfl) (by kernel_rfl) (by kernel_rfl) (by kernel_rfl) rfl (yo_pure hT rfl) ?_)
  refine rw_one 4 rfl (by kernel_rfl) rfl (fun hcl => ?_)
  skip
  refine lw_call hT rfl rfl (reg_until (hC.E.ex hx1) (papAt_get hC.E.three hk)) ?_
  rintro _ _ ⟨rfl, rfl⟩
  (repeat (refine lw_nil ?_))
  refine qw_rw (by repeat (first | with_reducible refine nop_then ?_ | with_reducible refine nop_block ?_ | with_reducible exact nop_body)) hcl (fun _ => hx1) ?_
  (refine rw_takeP 5 rfl rfl (by kernel_rfl) (by kernel_rfl) (by kernel_rfl) (by kernel_rfl) rfl (yo_pure hT rfl) ?_; refine rw_takeP 6 rfl rfl (by kernel_rfl) (by kernel_rfl) (by kernel_rfl) (by kernel_rfl) rfl (yo_pure hT rfl) ?_)
  refine rw_done (by kernel_rfl) ?_
  (repeat (first | refine qw_then ?_ | refine cw_ret ?_))
  exact qw_ret rfl ⟨rfl, hx1⟩
theorem find_1 (hC : Ctx w a x g vl b3 b7 b9 b10) {f : Nat} {cp : List Value} (hf : memN T.fns f = true) (pr : Nat → Bool)
    (hcl : ∀ k, k < 3 → ∀ w', Ex w w' → Ret Tryz.prog f ([] ++ [ptrP g.e k] ++ cp) w' fun v w'' => v = .bool (pr k) ∧ Ex w' w'') :
    Ret Tryz.prog 83 ([] ++ [.func (.func f) ⟨[]⟩ ⟨cp⟩] ++ [.pointer (some ⟨b9, 0, none⟩)]) w fun v w' => v = .bool ((ixs a.index).any pr) ∧ Ex w w' := by
  refine ret_of Tryz.func83 Tryz.ntmps83 rfl rfl rfl ?_
  (repeat (first | refine lw_pure hT rfl ?_ | refine lw_nil ?_ | refine cw_seq ?_ | refine cw_region ?_ | refine qw_then ?_))
  refine lw_load hT rfl rfl (v := vl) (hC.lst.cell 0) ?_
  (repeat (refine lw_pure hT rfl ?_))
  refine lw_call hT rfl rfl (cnf_ptr (fun k => [ptrP g.e k]) (fun k => ptrP g.e k) (fun _ => rfl) pr (fi := []) (cp := cp) w hC.row hf (fun k hk w' hx => hcl k (ixs_lt hk) w' hx)) ?_
  rintro _ w1 ⟨rfl, hx1⟩
  (repeat (first | refine lw_pure hT rfl ?_ | refine lw_nil ?_ | refine qw_then ?_ | refine cw_ret ?_))
  exact qw_ret rfl ⟨rfl, hx1⟩
theorem find_2 (hC : Ctx w a x g vl b3 b7 b9 b10) : Ret Tryz.prog 85 ([] ++ [] ++ [.pointer (some ⟨b9, 0, none⟩)]) w fun v w' => v = .bool (decide ((ixs a.index).length = 0)) ∧ Ex w w' := by
  obtain ⟨ad, cap, hv, _, _⟩ := hC.row.is
  have hl := hC.lst
  rw [hv, List.length_map] at hl
  refine ret_of Tryz.func85 Tryz.ntmps85 rfl rfl rfl ?_
  (repeat (first | refine lw_pure hT rfl ?_ | refine lw_nil ?_ | refine cw_seq ?_ | refine cw_region ?_ | refine qw_then ?_))
  refine lw_load hT rfl rfl (v := .slice ad (ixs a.index).length cap) (hl.cell 0) ?_
  (repeat (first | refine lw_pure hT rfl ?_ | refine lw_nil ?_ | refine qw_then ?_ | refine cw_ret ?_))
  refine qw_ret rfl ⟨?_, Ext.refl _ _⟩
  simp [oneOr]
theorem find_3 (hC : Ctx w a x g vl b3 b7 b9 b10) (hs : a.to_.size ≤ maxLen) : Ret Tryz.prog 86 ([] ++ [] ++ [.pointer (some ⟨b3, 0, none⟩)]) w fun v w' =>
    v = .bool ((a.dated && !dayB a.day) || (a.given && (!nameB a.to_ || decide (a.to_ = a.by_)))) ∧ Ex w w' := by
  have hb := hC.act
  refine ret_of Tryz.func86 Tryz.ntmps86 rfl rfl rfl ?_
  (repeat (first | refine lw_pure hT rfl ?_ | refine lw_nil ?_ | refine cw_seq ?_ | refine cw_region ?_ | refine qw_then ?_))
  refine lw_load hT rfl rfl (v := .bool a.dated) (hb.cell 4) ?_
  (repeat (refine lw_pure hT rfl ?_))
  have tail : ∀ (d : Bool), (a.dated && !dayB a.day) = d → d = false → (a.given && (!nameB a.to_ || decide (a.to_ = a.by_))) = ((a.dated && !dayB a.day) || (a.given && (!nameB a.to_ || decide (a.to_ = a.by_)))) := by
    intro d h1 h2; rw [h1, h2]; rfl
  refine lw_guard rfl (fun h1 => ?_) (fun h1 => ?_)
  · (repeat (first | refine lw_pure hT rfl ?_ | (refine lw_gon_t rfl ?_ ?_; focus (first | with_reducible rfl | with_reducible exact Bool.not_false | with_reducible exact Bool.not_true))))
    refine lw_load hT rfl rfl (v := .int .i64 a.day) (hb.cell 5) ?_
    (repeat (refine lw_gon_t rfl ?_ ?_; focus (first | with_reducible rfl | with_reducible exact Bool.not_false | with_reducible exact Bool.not_true)))
    refine lw_call hT rfl rfl (reg_day _ w) ?_
    rintro _ _ ⟨rfl, rfl⟩
    (repeat (first | refine lw_pure hT rfl ?_ | (refine lw_gon_t rfl ?_ ?_; focus (first | with_reducible rfl | with_reducible exact Bool.not_false | with_reducible exact Bool.not_true))))
    refine lw_guard rfl (fun h2 => ?_) (fun h2 => ?_)
    · (repeat (first | refine lw_pure hT rfl ?_ | refine lw_nil ?_ | refine qw_then ?_ | refine cw_ret ?_ | refine lw_goff_u rfl ?_ | (refine lw_goff_t rfl ?_ ?_; focus (first | with_reducible rfl | with_reducible exact Bool.not_false | with_reducible exact Bool.not_true))))
      exact qw_ret rfl ⟨by rw [h1, h2]; rfl, Ext.refl _ _⟩
    · (repeat (first | refine lw_pure hT rfl ?_ | (refine lw_gon_f rfl ?_ ?_; focus (first | with_reducible rfl | with_reducible exact Bool.not_false | with_reducible exact Bool.not_true))))
      refine lw_load hT rfl rfl (v := .bool a.given) (hb.cell 7) ?_
      (repeat (first | refine lw_pure hT rfl ?_ | (refine lw_gon_f rfl ?_ ?_; focus (first | with_reducible rfl | with_reducible exact Bool.not_false | with_reducible exact Bool.not_true))))
      refine lw_guard rfl (fun h3 => ?_) (fun h3 => ?_)
      · (repeat (first | refine lw_pure hT rfl ?_ | (refine lw_gon_t rfl ?_ ?_; focus (first | with_reducible rfl | with_reducible exact Bool.not_false | with_reducible exact Bool.not_true))))
        refine lw_load hT rfl rfl (v := .string a.to_) (hb.cell 6) ?_
        (repeat (refine lw_gon_t rfl ?_ ?_; focus (first | with_reducible rfl | with_reducible exact Bool.not_false | with_reducible exact Bool.not_true)))
        refine lw_call hT rfl rfl (mark_Name _ w hs) ?_
        rintro _ _ ⟨rfl, rfl⟩
        (repeat (first | refine lw_pure hT rfl ?_ | (refine lw_gon_t rfl ?_ ?_; focus (first | with_reducible rfl | with_reducible exact Bool.not_false | with_reducible exact Bool.not_true))))
        refine lw_guard rfl (fun h4 => ?_) (fun h4 => ?_)
        · (repeat (first | refine lw_pure hT rfl ?_ | refine lw_nil ?_ | refine qw_then ?_ | refine cw_ret ?_ | (refine lw_gon_t rfl ?_ ?_; focus (first | with_reducible rfl | with_reducible exact Bool.not_false | with_reducible exact Bool.not_true)) | (refine lw_goff_t rfl ?_ ?_; focus (first | with_reducible rfl | with_reducible exact Bool.not_false | with_reducible exact Bool.not_true)) | (refine lw_gon_f rfl ?_ ?_; focus (first | with_reducible rfl | with_reducible exact Bool.not_false | with_reducible exact Bool.not_true))))
          exact qw_ret rfl ⟨by rw [h1, h2, h3, h4]; rfl, Ext.refl _ _⟩
        · (repeat (first | refine lw_pure hT rfl ?_ | (refine lw_gon_f rfl ?_ ?_; focus (first | with_reducible rfl | with_reducible exact Bool.not_false | with_reducible exact Bool.not_true))))
          refine lw_load hT rfl rfl (v := .string a.to_) (hb.cell 6) ?_
          (repeat (first | refine lw_pure hT rfl ?_ | (refine lw_gon_f rfl ?_ ?_; focus (first | with_reducible rfl | with_reducible exact Bool.not_false | with_reducible exact Bool.not_true))))
          refine lw_load hT rfl rfl (v := .string a.by_) (hb.cell 1) ?_
          (repeat (first | refine lw_pure hT rfl ?_ | refine lw_nil ?_ | refine qw_then ?_ | refine cw_ret ?_ | (refine lw_gon_t rfl ?_ ?_; focus (first | with_reducible rfl | with_reducible exact Bool.not_false | with_reducible exact Bool.not_true)) | (refine lw_gon_f rfl ?_ ?_; focus (first | with_reducible rfl | with_reducible exact Bool.not_false | with_reducible exact Bool.not_true))))
          exact qw_ret rfl ⟨by rw [h1, h2, h3, h4]; rfl, Ext.refl _ _⟩
      · (repeat (first | refine lw_pure hT rfl ?_ | refine lw_nil ?_ | refine qw_then ?_ | refine cw_ret ?_ | refine lw_goff_u rfl ?_ | (refine lw_goff_f rfl ?_ ?_; focus (first | with_reducible rfl | with_reducible exact Bool.not_false | with_reducible exact Bool.not_true)) | (refine lw_gon_f rfl ?_ ?_; focus (first | with_reducible rfl | with_reducible exact Bool.not_false | with_reducible exact Bool.not_true))))
        exact qw_ret rfl ⟨by rw [h1, h2, h3]; rfl, Ext.refl _ _⟩
  · (repeat (first | refine lw_pure hT rfl ?_ | (refine lw_goff_f rfl ?_ ?_; focus (first | with_reducible rfl | with_reducible exact Bool.not_false | with_reducible exact Bool.not_true)) | (refine lw_gon_f rfl ?_ ?_; focus (first | with_reducible rfl | with_reducible exact Bool.not_false | with_reducible exact Bool.not_true))))
    refine lw_load hT rfl rfl (v := .bool a.given) (hb.cell 7) ?_
    (repeat (first | refine lw_pure hT rfl ?_ | (refine lw_gon_f rfl ?_ ?_; focus (first | with_reducible rfl | with_reducible exact Bool.not_false | with_reducible exact Bool.not_true))))
    refine lw_guard rfl (fun h3 => ?_) (fun h3 => ?_)
    · (repeat (first | refine lw_pure hT rfl ?_ | (refine lw_gon_t rfl ?_ ?_; focus (first | with_reducible rfl | with_reducible exact Bool.not_false | with_reducible exact Bool.not_true))))
      refine lw_load hT rfl rfl (v := .string a.to_) (hb.cell 6) ?_
      (repeat (refine lw_gon_t rfl ?_ ?_; focus (first | with_reducible rfl | with_reducible exact Bool.not_false | with_reducible exact Bool.not_true)))
      refine lw_call hT rfl rfl (mark_Name _ w hs) ?_
      rintro _ _ ⟨rfl, rfl⟩
      (repeat (first | refine lw_pure hT rfl ?_ | (refine lw_gon_t rfl ?_ ?_; focus (first | with_reducible rfl | with_reducible exact Bool.not_false | with_reducible exact Bool.not_true))))
      refine lw_guard rfl (fun h4 => ?_) (fun h4 => ?_)
      · (repeat (first | refine lw_pure hT rfl ?_ | refine lw_nil ?_ | refine qw_then ?_ | refine cw_ret ?_ | (refine lw_gon_t rfl ?_ ?_; focus (first | with_reducible rfl | with_reducible exact Bool.not_false | with_reducible exact Bool.not_true)) | (refine lw_goff_t rfl ?_ ?_; focus (first | with_reducible rfl | with_reducible exact Bool.not_false | with_reducible exact Bool.not_true)) | (refine lw_gon_f rfl ?_ ?_; focus (first | with_reducible rfl | with_reducible exact Bool.not_false | with_reducible exact Bool.not_true))))
        exact qw_ret rfl ⟨by rw [h1, h3, h4]; rfl, Ext.refl _ _⟩
      · (repeat (first | refine lw_pure hT rfl ?_ | (refine lw_gon_f rfl ?_ ?_; focus (first | with_reducible rfl | with_reducible exact Bool.not_false | with_reducible exact Bool.not_true))))
        refine lw_load hT rfl rfl (v := .string a.to_) (hb.cell 6) ?_
        (repeat (first | refine lw_pure hT rfl ?_ | (refine lw_gon_f rfl ?_ ?_; focus (first | with_reducible rfl | with_reducible exact Bool.not_false | with_reducible exact Bool.not_true))))
        refine lw_load hT rfl rfl (v := .string a.by_) (hb.cell 1) ?_
        (repeat (first | refine lw_pure hT rfl ?_ | refine lw_nil ?_ | refine qw_then ?_ | refine cw_ret ?_ | (refine lw_gon_t rfl ?_ ?_; focus (first | with_reducible rfl | with_reducible exact Bool.not_false | with_reducible exact Bool.not_true)) | (refine lw_gon_f rfl ?_ ?_; focus (first | with_reducible rfl | with_reducible exact Bool.not_false | with_reducible exact Bool.not_true))))
        exact qw_ret rfl ⟨by rw [h1, h3, h4]; rfl, Ext.refl _ _⟩
    · (repeat (first | refine lw_pure hT rfl ?_ | refine lw_nil ?_ | refine qw_then ?_ | refine cw_ret ?_ | refine lw_goff_u rfl ?_ | (refine lw_goff_f rfl ?_ ?_; focus (first | with_reducible rfl | with_reducible exact Bool.not_false | with_reducible exact Bool.not_true)) | (refine lw_gon_f rfl ?_ ?_; focus (first | with_reducible rfl | with_reducible exact Bool.not_false | with_reducible exact Bool.not_true))))
      exact qw_ret rfl ⟨by rw [h1, h3]; rfl, Ext.refl _ _⟩
theorem find_4 (hC : Ctx w a x g vl b3 b7 b9 b10) : Ret Tryz.prog 87 ([] ++ [] ++ [.pointer (some ⟨b7, 0, none⟩), .pointer (some ⟨b10, 0, none⟩), .pointer (some ⟨b3, 0, none⟩)]) w fun v w' =>
    v = .bool (decide (x.state ≠ 0) || (ixs a.index).any fun k => decide ((papAt x k).state ≠ a.state)) ∧ Ex w w' := by
  refine ret_of Tryz.func87 Tryz.ntmps87 rfl rfl rfl ?_
  (repeat (first | refine lw_pure hT rfl ?_ | refine lw_nil ?_ | refine cw_seq ?_ | refine cw_region ?_ | refine qw_then ?_))
  refine lw_load hT rfl rfl (v := .pointer (some ⟨g.e, 0, none⟩)) (hC.ent.cell 0) ?_
  (repeat (refine lw_pure hT rfl ?_))
  refine lw_load hT rfl rfl (v := .int .i64 x.state) (hC.E.blk.cell 9) ?_
  (repeat (refine lw_pure hT rfl ?_))
  refine lw_guard rfl (fun h1 => ?_) (fun h1 => ?_)
  · (repeat (first | refine lw_pure hT rfl ?_ | refine lw_nil ?_ | refine qw_then ?_ | refine cw_ret ?_ | (refine lw_goff_t rfl ?_ ?_; focus (first | with_reducible rfl | with_reducible exact Bool.not_false | with_reducible exact Bool.not_true))))
    exact qw_ret rfl ⟨by rw [h1]; rfl, Ext.refl _ _⟩
  · (repeat (refine lw_gon_f rfl ?_ ?_; focus (first | with_reducible rfl | with_reducible exact Bool.not_false | with_reducible exact Bool.not_true)))
    refine lw_load hT rfl rfl (v := .func (.func 83) #[] #[.pointer (some ⟨b9, 0, none⟩)]) (hC.any.cell 0) ?_
    (repeat (first | refine lw_pure hT rfl ?_ | (refine lw_gon_f rfl ?_ ?_; focus (first | with_reducible rfl | with_reducible exact Bool.not_false | with_reducible exact Bool.not_true))))
    refine lw_call_fn hT rfl rfl rfl (find_1 hC (f := 88) (cp := [.pointer (some ⟨b3, 0, none⟩)]) rfl (fun k => decide ((papAt x k).state ≠ a.state)) (fun k hk w' hx => find_41 (hC.ex hx) hk)) ?_
    rintro _ w1 ⟨rfl, hx1⟩
    (repeat (first | refine lw_pure hT rfl ?_ | refine lw_nil ?_ | refine qw_then ?_ | refine cw_ret ?_))
    exact qw_ret rfl ⟨by rw [h1]; rfl, hx1⟩
theorem find_5 (hC : Ctx w a x g vl b3 b7 b9 b10) : Ret Tryz.prog 89 ([] ++ [] ++ [.pointer (some ⟨b10, 0, none⟩), .pointer (some ⟨b3, 0, none⟩)]) w fun v w' =>
    v = .bool ((ixs a.index).any fun k => decide ((papAt x k).holder ≠ a.by_)) ∧ Ex w w' := by
  refine ret_of Tryz.func89 Tryz.ntmps89 rfl rfl rfl ?_
  (repeat (first | refine lw_pure hT rfl ?_ | refine lw_nil ?_ | refine cw_seq ?_ | refine cw_region ?_ | refine qw_then ?_))
  refine lw_load hT rfl rfl (v := .func (.func 83) #[] #[.pointer (some ⟨b9, 0, none⟩)]) (hC.any.cell 0) ?_
  (repeat (refine lw_pure hT rfl ?_))
  refine lw_call_fn hT rfl rfl rfl (find_1 hC (f := 90) (cp := [.pointer (some ⟨b3, 0, none⟩)]) rfl (fun k => decide ((papAt x k).holder ≠ a.by_)) (fun k hk w' hx => find_51 (hC.ex hx) hk)) ?_
  rintro _ w1 ⟨rfl, hx1⟩
  (repeat (first | refine lw_pure hT rfl ?_ | refine lw_nil ?_ | refine qw_then ?_ | refine cw_ret ?_))
  exact qw_ret rfl ⟨rfl, hx1⟩
theorem find_6 (hC : Ctx w a x g vl b3 b7 b9 b10) : Ret Tryz.prog 91 ([] ++ [] ++ [.pointer (some ⟨b3, 0, none⟩), .pointer (some ⟨b10, 0, none⟩), .pointer (some ⟨b7, 0, none⟩)]) w fun v w' =>
    v = .bool (a.dated && (ixs a.index).any fun k => decide (a.day < untilD x.bill (papAt x k))) ∧ Ex w w' := by
  refine ret_of Tryz.func91 Tryz.ntmps91 rfl rfl rfl ?_
  (repeat (first | refine lw_pure hT rfl ?_ | refine lw_nil ?_ | refine cw_seq ?_ | refine cw_region ?_ | refine qw_then ?_))
  refine lw_load hT rfl rfl (v := .bool a.dated) (hC.act.cell 4) ?_
  (repeat (refine lw_pure hT rfl ?_))
  refine lw_guard rfl (fun h1 => ?_) (fun h1 => ?_)
  · (repeat (refine lw_gon_t rfl ?_ ?_; focus (first | with_reducible rfl | with_reducible exact Bool.not_false | with_reducible exact Bool.not_true)))
    refine lw_load hT rfl rfl (v := .func (.func 83) #[] #[.pointer (some ⟨b9, 0, none⟩)]) (hC.any.cell 0) ?_
    (repeat (first | refine lw_pure hT rfl ?_ | (refine lw_gon_t rfl ?_ ?_; focus (first | with_reducible rfl | with_reducible exact Bool.not_false | with_reducible exact Bool.not_true))))
    refine lw_call_fn hT rfl rfl rfl (find_1 hC (f := 92) (cp := [.pointer (some ⟨b3, 0, none⟩), .pointer (some ⟨b7, 0, none⟩)]) rfl (fun k => decide (a.day < untilD x.bill (papAt x k))) (fun k hk w' hx => find_61 (hC.ex hx) hk)) ?_
    rintro _ w1 ⟨rfl, hx1⟩
    (repeat (first | refine lw_pure hT rfl ?_ | refine lw_nil ?_ | refine qw_then ?_ | refine cw_ret ?_))
    exact qw_ret rfl ⟨by rw [h1]; rfl, hx1⟩
  · (repeat (first | refine lw_pure hT rfl ?_ | refine lw_nil ?_ | refine qw_then ?_ | refine cw_ret ?_ | (refine lw_goff_f rfl ?_ ?_; focus (first | with_reducible rfl | with_reducible exact Bool.not_false | with_reducible exact Bool.not_true))))
    exact qw_ret rfl ⟨by rw [h1]; rfl, Ext.refl _ _⟩
end
end Go.Proofs.YtfbjpfgglgffgaaGreat
