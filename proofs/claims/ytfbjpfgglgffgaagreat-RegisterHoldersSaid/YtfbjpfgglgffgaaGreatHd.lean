/- Contract of supercargolaw23.Unlike: of two registers that stand alike it tells nothing. -/
import Derived.Test.YtfbjpfgglgffgaaGreatHc
import Derived.Test.YtfbjpfgglgffgaaGreatGk
import Derived.Test.YtfbjpfgglgffgaaGreatRg
set_option linter.unusedVariables false
set_option linter.unusedSimpArgs false
set_option linter.unusedSectionVars false
set_option linter.unnecessarySimpa false
namespace Go.SK
open Go
attribute [local semireducible] CW LW QW Ret Kn
section
variable {P : Program} {T : Tab} {n : Nat} {fr : Fr} {S : World → Prop} {ops : Array Oper}
theorem yo_neq_bool {d t : Nat} {a b : Bool} {x y : Operand} {t' : TypeId} {ty : TypeId} {ps : String} {af : Array Edge} (hu : P.underlying t = some .bool) (hx : ev n fr x = some (.bool a)) (hy : ev n fr y = some (.bool b)) :
    YO P ops S n fr { dst := some d, op := .binOp .neq t x y t', type := ty, pos := ps, after := af, guard := none } (.bool (!(a == b))) :=
  yo_run rfl fun a' hk w _ => by
    have hq : (Op.equal t (.bool a) (.bool b)).run P w = .ok (a == b) w := equalIn_bool 9999 hu
    simp only [execOp, ev_sound hk hx, ev_sound hk hy]
    simp [eqGuard, binOp, hq]
end
end Go.SK
namespace Go.Proofs.YtfbjpfgglgffgaaGreat
open Go Go.SK
theorem orig_self (n : ByteArray) (q : PapD) (i : Nat) : SelfEq Tryz.prog 54 (origRow n q i) :=
  selfEq (ks := [(false, 9, 0), (false, 3, 1), (false, 3, 2), (false, 9, 3)]) (by kernel_rfl) (by kernel_rfl) (by kernel_rfl) (by kernel_rfl) (by
    have us : Tryz.prog.underlying 9 = some .string := by kernel_rfl
    have ui : Tryz.prog.underlying 3 = some (.int .i64) := by kernel_rfl
    intro k hk
    simp at hk
    rcases hk with rfl | rfl | rfl | rfl
    · exact ⟨rfl, .inl ⟨us, _, rfl⟩⟩
    · exact ⟨rfl, .inr ⟨ui, _, rfl⟩⟩
    · exact ⟨rfl, .inr ⟨ui, _, rfl⟩⟩
    · exact ⟨rfl, .inl ⟨us, _, rfl⟩⟩)
theorem fidx_split {α : Type} (p : α → Bool) (l : List α) : (fidx p l = -1 ∧ l.any p = false) ∨ ∃ (i : Nat) (hi : i < l.length), fidx p l = i ∧ p l[i] = true := by
  unfold fidx
  cases h : l.findIdx? p with
  | none => exact .inl ⟨rfl, by rw [List.findIdx?_eq_none_iff] at h; rw [List.any_eq_false]; intro x hx; rw [h x hx]; decide⟩
  | some i =>
    rw [List.findIdx?_eq_some_iff_getElem] at h
    obtain ⟨hi, hp, _⟩ := h
    exact .inr ⟨i, hi, rfl, hp⟩
theorem has_mem {e : EntD} {x : ByteArray} (h : e.has x = true) : e.state = 0 ∧ x ∈ e.bill.boxes := by
  unfold EntD.has at h
  simp only [Bool.and_eq_true, decide_eq_true_eq, List.any_eq_true] at h
  obtain ⟨h1, y, hy, rfl⟩ := h
  exact ⟨h1, hy⟩
/-- The box, as both tell it. -/
theorem box_both {k : Nat} {r : RegD} (hG : Good k r) {x : ByteArray} {v : Value} (h : BoxR r x v) : (fidx (fun e => e.hasF x) r.l = -1 ∧ v = .tuple #[.string ⟨#[]⟩, .bool false]) ∨ ∃ (i : Nat) (hi : i < r.l.length), fidx (fun e => e.hasF x) r.l = i ∧ v = .tuple #[.string r.l[i].bill.number, .bool true] := by
  rcases h with ⟨hv, hb⟩ | ⟨e, he, hh, hv⟩ <;> rcases fidx_split (fun e : EntD => e.hasF x) r.l with ⟨h1, h2⟩ | ⟨i, hi, h1, h2⟩
  · exact .inl ⟨h1, hv⟩
  · rw [hasF_eq] at h2
    unfold RegD.boxed at hb
    rw [List.any_eq_false] at hb
    exact absurd h2 (hb _ (List.getElem_mem hi))
  · rw [List.any_eq_false] at h2
    exact absurd (by rw [hasF_eq]; exact hh) (h2 e he)
  · right
    rw [hasF_eq] at h2
    obtain ⟨j, hj⟩ := List.getElem?_of_mem he
    obtain ⟨s1, m1⟩ := has_mem hh
    obtain ⟨s2, m2⟩ := has_mem h2
    have := hG.box i j r.l[i] e x (List.getElem?_eq_getElem hi) hj s2 s1 m2 m1
    subst this
    rw [List.getElem?_eq_getElem hi] at hj
    cases hj
    exact ⟨i, hi, h1, hv⟩
def thereB (x : EntD) (q : PapD) : Bool := decide (x.state = 0) && (decide (q.state = 0) || decide (q.state = 3))
theorem holder_there {r : RegD} {n : ByteArray} {x : EntD} (h : r.at? n = some x) (h3 : x.ps.length = 3) {i : Nat} (hi : i < 3) : r.holderOf n (i : Int) = if thereB x (papAt x i) then some (papAt x i).holder else none := by
  unfold RegD.holderOf thereB
  rw [pap_of h h3 hi]
  simp only [Bool.and_eq_true, Bool.or_eq_true, decide_eq_true_eq]
set_option maxHeartbeats 8000000 in
theorem l23_Unlike {A : Nat → Prop} {w : World} {p m k0 : Nat} {r : RegD} {gs : List GhostE} {vL : Value} {fgs : List FG} (hR : Rep w p r m gs) (hG : Good k0 r) (hk0 : k0 ≤ 200) (hF : FRep A w vL r.l fgs) (who box : ByteArray) :
    Ret Tryz.prog 23 [.pointer (some ⟨p, 0, none⟩), .agg ⟨encR r.carrier vL⟩, .string who, .string box] w fun v w' => v = .string ⟨#[]⟩ ∧ Ex w w' := by
  have hl : r.l.length ≤ 256 := by have := hG.len; omega
  have hnsz : ∀ e ∈ r.l, e.bill.number.size ≤ maxLen := fun e he => (hG.ent e he).ok.number
  have hsm := hG.small (by omega)
  obtain ⟨aL, cL, hvL, hLm⟩ := hF.slice
  subst hvL
  refine ret_of Tryz.func23 Tryz.ntmps23 rfl rfl rfl ?_
  (repeat (first | refine cw_seq ?_ | refine cw_region ?_))
  refine lw_box rfl ?_
  intro b5 w1 hbb5 hb5 hx1 hs1
  replace hb5 : Blk w1 b5 (encR r.carrier (.slice aL r.l.length cL)) 28 := hb5
  (repeat (first | refine lw_pure hT rfl ?_ | refine lw_nil ?_ | refine cw_seq ?_ | refine qw_then ?_))
  refine cw_draw hM (fun w' => Ex w1 w') [] rfl rfl (by repeat (first | with_reducible refine nop_then ?_ | with_reducible refine nop_block ?_ | with_reducible exact nop_body)) (fun w2 hx2 _ => ⟨hx2, ?_⟩)
  (refine rw_takeP 0 rfl rfl (by kernel_rfl) (by kernel_rfl) (by kernel_rfl) (by kernel_rfl) rfl (yo_pure hT rfl) ?_)
  refine rw_take 2 rfl rfl (by kernel_rfl) (by kernel_rfl) (by kernel_rfl) (by kernel_rfl) rfl (yo_load_agg hT rfl rfl rfl (vs := encR r.carrier (.slice aL r.l.length cL)) (fun w' hS => (hb5.ex hS).rd 0 2)) ?_
  refine rw_one 1 rfl (by kernel_rfl) rfl (fun hcl => ?_)
  have hx02 := hx1.trans hx2
  refine lw_call hT rfl rfl (reg_Bills (hR.ex hx02) hnsz hl) ?_
  rintro vb w3 ⟨⟨L, hL1, hL2, hown⟩, hx3⟩
  have hx13 := hx2.trans hx3
  (repeat (refine lw_nil ?_))
  refine qw_rw (by repeat (first | with_reducible refine nop_then ?_ | with_reducible refine nop_block ?_ | with_reducible exact nop_body)) hcl (fun _ => hx13) ?_
  refine rw_one 3 rfl (by kernel_rfl) rfl (fun hcl => ?_)
  refine lw_call hT rfl rfl (r23_Bills r.carrier (hF.ex (hx1.trans hx13)) hl) ?_
  rintro ub w4 ⟨hub, hx4⟩
  have hx14 := hx13.trans hx4
  (repeat (refine lw_nil ?_))
  refine qw_rw (by repeat (first | with_reducible refine nop_then ?_ | with_reducible refine nop_block ?_ | with_reducible exact nop_body)) hcl (fun _ => hx14) ?_
  refine rw_one 4 rfl (by kernel_rfl) rfl (fun hcl => ?_)
  refine lw_call hT rfl rfl (r_Same w4 ((sls_own (A := fun _ => True) hown fun _ _ => trivial).ex hx4) hub.sls) ?_
  rintro _ w5 ⟨rfl, hx5⟩
  have hx15 := hx14.trans hx5
  rw [decide_eq_true (show L = putAll (r.l.map (·.bill.number)) from bills_eq hG.nd hL1 hL2)]
  (repeat (refine lw_nil ?_))
  refine qw_rw (by repeat (first | with_reducible refine nop_then ?_ | with_reducible refine nop_block ?_ | with_reducible exact nop_body)) hcl (fun _ => hx15) ?_
  (refine rw_takeP 5 rfl rfl (by kernel_rfl) (by kernel_rfl) (by kernel_rfl) (by kernel_rfl) rfl (yo_pure hT rfl) ?_; refine rw_takeP 6 rfl rfl (by kernel_rfl) (by kernel_rfl) (by kernel_rfl) (by kernel_rfl) rfl (yo_pure hT rfl) ?_)
  (refine rw_takeP 7 rfl rfl (by kernel_rfl) (by kernel_rfl) (by kernel_rfl) (by kernel_rfl) rfl (yo_on rfl rfl (yo_pure hT rfl)) ?_; refine rw_takeP 8 rfl rfl (by kernel_rfl) (by kernel_rfl) (by kernel_rfl) (by kernel_rfl) rfl (yo_on rfl rfl (yo_pure hT rfl)) ?_)
  refine rw_take 10 rfl rfl (by kernel_rfl) (by kernel_rfl) (by kernel_rfl) (by kernel_rfl) rfl (yo_on rfl rfl (yo_load_agg hT rfl rfl rfl (vs := encR r.carrier (.slice aL r.l.length cL)) (fun w' hS => (hb5.ex hS).rd 0 2))) ?_
  (refine rw_takeP 11 rfl rfl (by kernel_rfl) (by kernel_rfl) (by kernel_rfl) (by kernel_rfl) rfl (yo_on rfl rfl (yo_pure hT rfl)) ?_)
  refine rw_one 9 rfl (by kernel_rfl) rfl (fun hcl => ?_)
  refine lw_gon_f rfl rfl ?_
  refine lw_call hT rfl rfl (reg_Of (hR.ex (hx1.trans hx15)) hnsz hl who) ?_
  rintro vo w6 ⟨⟨L', hL1', hL2', hown'⟩, hx6⟩
  have hx16 := hx15.trans hx6
  (repeat (refine lw_nil ?_))
  refine qw_rw (by repeat (first | with_reducible refine nop_then ?_ | with_reducible refine nop_block ?_ | with_reducible exact nop_body)) hcl (fun _ => hx16) ?_
  refine rw_one 12 rfl (by kernel_rfl) rfl (fun hcl => ?_)
  refine lw_gon_f rfl rfl ?_
  refine lw_call hT rfl rfl (r23_Of r.carrier who (hF.ex (hx1.trans hx16)) hl) ?_
  rintro uo w7 ⟨huo, hx7⟩
  have hx17 := hx16.trans hx7
  (repeat (refine lw_nil ?_))
  refine qw_rw (by repeat (first | with_reducible refine nop_then ?_ | with_reducible refine nop_block ?_ | with_reducible exact nop_body)) hcl (fun _ => hx17) ?_
  refine rw_one 13 rfl (by kernel_rfl) rfl (fun hcl => ?_)
  refine lw_gon_f rfl rfl ?_
  refine lw_call hT rfl rfl (r_Same w7 ((sls_own (A := fun _ => True) hown' fun _ _ => trivial).ex hx7) huo.sls) ?_
  rintro _ w8 ⟨rfl, hx8⟩
  have hx18 := hx17.trans hx8
  rw [decide_eq_true (of_eq hG.nd who hL1' hL2')]
  (repeat (refine lw_nil ?_))
  refine qw_rw (by repeat (first | with_reducible refine nop_then ?_ | with_reducible refine nop_block ?_ | with_reducible exact nop_body)) hcl (fun _ => hx18) ?_
  (refine rw_takeP 14 rfl rfl (by kernel_rfl) (by kernel_rfl) (by kernel_rfl) (by kernel_rfl) rfl (yo_on rfl rfl (yo_pure hT rfl)) ?_)
  (refine rw_takeP 15 rfl rfl (by kernel_rfl) (by kernel_rfl) (by kernel_rfl) (by kernel_rfl) rfl (yo_pure hT rfl) ?_)
  refine rw_done (by kernel_rfl) ?_
  (repeat (first | refine cw_seq ?_ | refine cw_region ?_ | refine qw_then ?_ | refine cw_skip ?_ | (refine cw_cond_f rfl ?_ ?_; focus (first | with_reducible rfl | with_reducible exact Bool.not_false | with_reducible exact Bool.not_true))))
  have hx08 := hx1.trans hx18
  have hb58 := hb5.ex hx18
  refine lw_load_agg hT rfl rfl rfl (vs := encR r.carrier (.slice aL r.l.length cL)) (hb58.rd 0 2) ?_
  (repeat (refine lw_pure hT rfl ?_))
  refine lw_call hT rfl rfl (r23_Box r.carrier box (hF.ex hx08)) ?_
  rintro _ w9 ⟨rfl, hx9⟩
  have hx09 := hx08.trans hx9
  refine lw_pure hT rfl ?_
  refine lw_nil ?_
  refine qw_then ?_
  refine cw_seq ?_
  refine cw_then_cut (α := ByteArray × Bool × Int) (fun z => [(0, pB p), (2, .string who), (5, pB b5), (9, .int .i64 z.2.2), (10, .string z.1), (11, .bool z.2.1)])
    (fun z w' => Ex w9 w' ∧ (z = (⟨#[]⟩, false, -1) ∨ ∃ (i : Nat) (x : EntD), r.l[i]? = some x ∧ z = (x.bill.number, true, (i : Int)))) ?_ ?_
  · unfold pB
    (repeat (first | refine lw_pure hT rfl ?_ | refine cw_region ?_))
    refine lw_call hT rfl rfl (reg_Box (hR.ex hx09) box) ?_
    rintro vbx w10 ⟨hbox, hx10⟩
    rcases box_both hG hbox with ⟨hf, rfl⟩ | ⟨ib, hib, hf, rfl⟩ <;> rw [hf]
    · (repeat (first | refine lw_pure hT rfl ?_ | refine lw_nil ?_))
      exact qw_cut (⟨#[]⟩, false, -1) (by repeat (first | exact trivial | refine ⟨rfl, ?_⟩)) ⟨hx10, .inl rfl⟩
    · (repeat (first | refine lw_pure hT rfl ?_ | refine lw_nil ?_))
      exact qw_cut (r.l[ib].bill.number, true, (ib : Int)) (by repeat (first | exact trivial | refine ⟨rfl, ?_⟩)) ⟨hx10, .inr ⟨ib, r.l[ib], List.getElem?_eq_getElem hib, rfl⟩⟩
  rintro z w10 ⟨hx10, hz⟩
  have hx010 := hx09.trans hx10
  have hb510 := (hb58.ex hx9).ex hx10
  refine qw_then ?_
  refine cw_seq ?_
  refine cw_then_cut (α := Unit) (fun _ => [(0, pB p), (2, .string who), (5, pB b5)]) (fun _ w' => w10 = w') ?_ ?_
  · unfold pB
    rcases hz with rfl | ⟨i, x, hi, rfl⟩
    · refine cw_sub (fr' := [(0, .pointer (some ⟨p, 0, none⟩)), (2, .string who), (5, .pointer (some ⟨b5, 0, none⟩)), (9, .int .i64 (-1)), (10, .string ⟨#[]⟩), (11, .bool false)]) (by repeat (first | exact trivial | refine ⟨rfl, ?_⟩)) ?_
      (repeat (first | refine lw_pure hT rfl ?_ | refine cw_seq ?_ | refine cw_region ?_))
      refine lw_neq_bool (by kernel_rfl) rfl rfl ?_
      (repeat (refine lw_pure hT rfl ?_))
      refine lw_guard rfl (fun e => absurd e (by decide)) (fun _ => ?_)
      (repeat (first | refine lw_pure hT rfl ?_ | refine lw_nil ?_ | refine qw_then ?_ | (refine lw_gon_t rfl ?_ ?_; focus (first | with_reducible rfl | with_reducible exact Bool.not_false | with_reducible exact Bool.not_true)) | (refine lw_goff_f rfl ?_ ?_; focus (first | with_reducible rfl | with_reducible exact Bool.not_false | with_reducible exact Bool.not_true)) | (refine lw_gon_f rfl ?_ ?_; focus (first | with_reducible rfl | with_reducible exact Bool.not_false | with_reducible exact Bool.not_true))))
      refine cw_cond rfl (fun e => absurd e (by decide)) (fun _ => ?_)
      (repeat (refine cw_skip ?_))
      exact qw_cut () (by repeat (first | exact trivial | refine ⟨rfl, ?_⟩)) rfl
    · have hil := (List.getElem?_eq_some_iff.1 hi).1
      obtain ⟨x1, g, bL, oL, cL', hx_, hg_, hv, hrd, hE⟩ := (hF.ex hx010).row hil
      cases hv
      rw [hi] at hx_; cases hx_
      have hge : decide ((i : Int) ≥ 0) = true := by simp
      refine cw_sub (fr' := [(0, .pointer (some ⟨p, 0, none⟩)), (2, .string who), (5, .pointer (some ⟨b5, 0, none⟩)), (9, .int .i64 (i : Nat)), (10, .string x.bill.number), (11, .bool true)]) (by repeat (first | exact trivial | refine ⟨rfl, ?_⟩)) ?_
      (repeat (first | refine lw_pure hT rfl ?_ | refine cw_seq ?_ | refine cw_region ?_))
      refine lw_neq_bool (by kernel_rfl) rfl rfl ?_
      (repeat (refine lw_pure hT rfl ?_))
      refine lw_guard rfl (fun e => by exfalso; revert e; rw [hge]; decide) (fun _ => ?_)
      (repeat (first | refine lw_pure hT rfl ?_ | (refine lw_gon_t rfl ?_ ?_; focus (first | with_reducible rfl | with_reducible exact Bool.not_false | with_reducible exact Bool.not_true)) | (refine lw_gon_f rfl ?_ ?_; focus (first | with_reducible rfl | with_reducible exact Bool.not_false | with_reducible exact Bool.not_true))))
      refine lw_load hT rfl rfl (v := .slice (some ⟨bL, oL, none⟩) r.l.length cL) (hb510.cell 1) ?_
      (repeat (first | refine lw_pure hT rfl ?_ | (refine lw_gon_t rfl ?_ ?_; focus (first | with_reducible rfl | with_reducible exact Bool.not_false | with_reducible exact Bool.not_true))))
      refine lw_index hT rfl rfl rfl i rfl hil ?_
      (repeat (first | refine lw_pure hT rfl ?_ | (refine lw_gon_t rfl ?_ ?_; focus (first | with_reducible rfl | with_reducible exact Bool.not_false | with_reducible exact Bool.not_true))))
      refine lw_load hT rfl rfl (v := .string x.bill.number) (hrd 0 _ rfl) ?_
      (repeat (first | refine lw_pure hT rfl ?_ | (refine lw_gon_t rfl ?_ ?_; focus (first | with_reducible rfl | with_reducible exact Bool.not_false | with_reducible exact Bool.not_true)) | (refine lw_gon_f rfl ?_ ?_; focus (first | with_reducible rfl | with_reducible exact Bool.not_false | with_reducible exact Bool.not_true))))
      refine lw_guard rfl (fun e => absurd rfl (of_decide_eq_true e)) (fun _ => ?_)
      (repeat (first | refine lw_pure hT rfl ?_ | refine lw_nil ?_ | refine qw_then ?_ | refine cw_skip ?_ | (refine lw_goff_f rfl ?_ ?_; focus (first | with_reducible rfl | with_reducible exact Bool.not_false | with_reducible exact Bool.not_true)) | (refine lw_gon_f rfl ?_ ?_; focus (first | with_reducible rfl | with_reducible exact Bool.not_false | with_reducible exact Bool.not_true)) | (refine cw_cond_f rfl ?_ ?_; focus (first | with_reducible rfl | with_reducible exact Bool.not_false | with_reducible exact Bool.not_true))))
      exact qw_cut () (by repeat (first | exact trivial | refine ⟨rfl, ?_⟩)) rfl
  rintro _ _ rfl
  unfold pB
  (repeat (first | refine lw_pure hT rfl ?_ | refine lw_nil ?_ | refine cw_seq ?_ | refine cw_region ?_ | refine qw_then ?_ | refine cw_block ?_))
  refine cw_loop (fun i : Nat => [(0, .pointer (some ⟨p, 0, none⟩)), (2, .string who), (5, .pointer (some ⟨b5, 0, none⟩)), (12, .int .i64 (i : Nat))]) (fun i w' => i ≤ r.l.length ∧ Ex w10 w') (fun i => r.l.length - i) 0 (by repeat (first | exact trivial | refine ⟨rfl, ?_⟩)) ⟨Nat.zero_le _, Ext.refl _ _⟩ ?_
  rintro i w3 ⟨hi, hx103⟩
  have hx03 := hx010.trans hx103
  have hb53 := hb510.ex hx103
  (repeat (first | refine lw_pure hT rfl ?_ | refine cw_seq ?_ | refine cw_region ?_))
  refine lw_load hT rfl rfl (v := .slice aL r.l.length cL) (hb53.cell 1) ?_
  (repeat (first | refine lw_pure hT rfl ?_ | refine lw_nil ?_ | refine qw_then ?_))
  refine cw_cond rfl (fun e => ?_) (fun e => ?_)
  · have hlt : i < r.l.length := by have := of_decide_eq_true e; omega
    obtain ⟨x, g, bL, oL, cL', hx_, hg_, hv, hrd, hE⟩ := (hF.ex hx03).row hlt
    cases hv
    have hxm := List.mem_of_getElem? hx_
    have hatx := at_self hG.nd hxm
    have h3 := (hG.ent x hxm).three
    (repeat (first | refine lw_pure hT rfl ?_ | refine cw_seq ?_ | refine cw_region ?_ | refine qw_then ?_ | refine cw_skip ?_ | refine cw_block ?_))
    refine lw_load hT rfl rfl (v := .slice (some ⟨bL, oL, none⟩) r.l.length cL) (hb53.cell 1) ?_
    (repeat (refine lw_pure hT rfl ?_))
    refine lw_index hT rfl rfl rfl i rfl hlt ?_
    skip
    refine lw_load_agg hT rfl rfl rfl (vs := entF (x, g)) hrd ?_
    skip
    refine lw_alloc z98 ?_
    intro b13 w4 hbb13 hb13 hx4 hs4
    skip
    refine lw_store_agg hT rfl rfl rfl rfl (entF_one hE) hb13 (show (11 : Nat) ≤ 11 by decide) ?_
    intro w5 hb135 hx5 hs5
    replace hb135 : Blk w5 b13 (entF (x, g)) 98 := hb135
    have hx35 : Ex w3 w5 := hx4.up_new hx5 (fun i h => by omega)
    have hx05 := hx03.trans hx35
    have hE5 := hE.ex hx35
    (repeat (first | refine lw_pure hT rfl ?_ | refine lw_nil ?_ | refine cw_seq ?_ | refine cw_region ?_ | refine qw_then ?_))
    refine lw_load hT rfl rfl (v := .string x.bill.number) (hb135.cell 0) ?_
    skip
    refine lw_call hT rfl rfl (reg_Get (hR.ex hx05) hsm x.bill.number) ?_
    rintro _ w6 ⟨hget, hx6⟩
    unfold GetR at hget
    rw [hatx] at hget
    obtain ⟨ub, up, rfl, hub, hup⟩ := hget
    (repeat (refine lw_pure hT rfl ?_))
    refine lw_alloc z35 ?_
    intro b14 w7 hbb14 hb14 hx7 hs7
    skip
    refine lw_store_agg hT rfl rfl rfl rfl (encB_one (A := fun _ => True) (w := w) (own_one hub) (own_one hup)) hb14 (show (9 : Nat) ≤ 9 by decide) ?_
    intro w8 hb148 hx8 hs8
    replace hb148 : Blk w8 b14 (encB x.bill ub up) 35 := hb148
    have hx68 : Ex w6 w8 := hx7.up_new hx8 (fun i h => by omega)
    have hx58 := hx6.trans hx68
    have hx08 := hx05.trans hx58
    have hb138 := hb135.ex hx58
    (repeat (first | refine lw_pure hT rfl ?_ | refine lw_nil ?_ | refine cw_seq ?_ | refine cw_region ?_ | refine qw_then ?_))
    refine lw_load hT rfl rfl (v := .string x.bill.number) (hb138.cell 0) ?_
    skip
    refine lw_call hT rfl rfl (reg_Originals (hR.ex hx08) x.bill.number) ?_
    rintro u16 w9' ⟨hu16, hx9'⟩
    obtain ⟨g16, c16, rfl, hg16, hrow⟩ := origs_row hatx h3 hu16
    have hx09' := hx08.trans hx9'
    have hb139 := hb138.ex hx9'
    have hb149 := hb148.ex hx9'
    have hb59 := (hb53.ex (hx35.trans hx58)).ex hx9'
    have hE9 := (hE5.ex hx58).ex hx9'
    (repeat (first | refine lw_pure hT rfl ?_ | refine lw_nil ?_ | refine cw_seq ?_ | refine qw_then ?_))
    refine cw_then_cut (α := Unit) (fun _ => [(0, pB p), (2, .string who), (5, pB b5), (12, .int .i64 (i : Nat)), (13, pB b13), (16, .slice (some ⟨g16, 0, none⟩) 3 c16), (136, .bool false)]) (fun _ w' => Ex w9' w') ?_ ?_
    · unfold pB
      have hub9 := own_ex (own_ex hub hx68) hx9'
      have hup9 := own_ex (own_ex hup hx68) hx9'
      refine cw_draw hM (fun w' => Ex w9' w') [] rfl rfl (by repeat (first | with_reducible refine nop_then ?_ | with_reducible refine nop_block ?_ | with_reducible exact nop_body)) (fun wa hxa _ => ⟨hxa, ?_⟩)
      (refine rw_takeP 0 rfl rfl (by kernel_rfl) (by kernel_rfl) (by kernel_rfl) (by kernel_rfl) rfl (yo_pure hT rfl) ?_; refine rw_takeP 1 rfl rfl (by kernel_rfl) (by kernel_rfl) (by kernel_rfl) (by kernel_rfl) rfl (yo_pure hT rfl) ?_; refine rw_takeP 2 rfl rfl (by kernel_rfl) (by kernel_rfl) (by kernel_rfl) (by kernel_rfl) rfl (yo_pure hT rfl) ?_)
      refine rw_take 3 rfl rfl (by kernel_rfl) (by kernel_rfl) (by kernel_rfl) (by kernel_rfl) rfl (yo_on rfl rfl (yo_load_agg hT rfl rfl rfl (vs := encB x.bill ub up) (fun w' hS => (hb149.ex hS).rd 0 9))) ?_
      (refine rw_takeP 4 rfl rfl (by kernel_rfl) (by kernel_rfl) (by kernel_rfl) (by kernel_rfl) rfl (yo_on rfl rfl (yo_pure hT rfl)) ?_)
      refine rw_take 5 rfl rfl (by kernel_rfl) (by kernel_rfl) (by kernel_rfl) (by kernel_rfl) rfl (yo_on rfl rfl (yo_load_agg hT rfl rfl rfl (vs := encB x.bill g.vb g.vp) (fun w' hS => (hb139.ex hS).rd 0 9))) ?_
      refine rw_one 6 rfl (by kernel_rfl) rfl (fun hcl => ?_)
      refine lw_gon_f rfl rfl ?_
      refine lw_call hT rfl rfl (r23_Same (A := fun _ => True) (B := A) ((sls_own hub9 fun _ _ => trivial).ex hxa) ((sls_own hup9 fun _ _ => trivial).ex hxa) (hE9.boxes.ex hxa) (hE9.parents.ex hxa)) ?_
      rintro _ wb ⟨rfl, hxb⟩
      have hxab := hxa.trans hxb
      (repeat (refine lw_nil ?_))
      refine qw_rw (by repeat (first | with_reducible refine nop_then ?_ | with_reducible refine nop_block ?_ | with_reducible exact nop_body)) hcl (fun _ => hxab) ?_
      (refine rw_takeP 7 rfl rfl (by kernel_rfl) (by kernel_rfl) (by kernel_rfl) (by kernel_rfl) rfl (yo_on rfl rfl (yo_pure hT rfl)) ?_)
      (refine rw_takeP 8 rfl rfl (by kernel_rfl) (by kernel_rfl) (by kernel_rfl) (by kernel_rfl) rfl (yo_pure hT rfl) ?_; refine rw_takeP 9 rfl rfl (by kernel_rfl) (by kernel_rfl) (by kernel_rfl) (by kernel_rfl) rfl (yo_pure hT rfl) ?_)
      (refine rw_takeP 10 rfl rfl (by kernel_rfl) (by kernel_rfl) (by kernel_rfl) (by kernel_rfl) rfl (yo_on rfl rfl (yo_pure hT rfl)) ?_; refine rw_takeP 11 rfl rfl (by kernel_rfl) (by kernel_rfl) (by kernel_rfl) (by kernel_rfl) rfl (yo_on rfl rfl (yo_pure hT rfl)) ?_; refine rw_takeP 12 rfl rfl (by kernel_rfl) (by kernel_rfl) (by kernel_rfl) (by kernel_rfl) rfl (yo_on rfl rfl (yo_pure hT rfl)) ?_)
      refine rw_take 13 rfl rfl (by kernel_rfl) (by kernel_rfl) (by kernel_rfl) (by kernel_rfl) rfl (yo_on rfl rfl (yo_load hT rfl rfl (v := .string x.bill.number) (fun w' hS => Ex.cell hS (hb139.cell 0)))) ?_
      (refine rw_takeP 15 rfl rfl (by kernel_rfl) (by kernel_rfl) (by kernel_rfl) (by kernel_rfl) rfl (yo_on rfl rfl (yo_pure hT rfl)) ?_)
      refine rw_take 16 rfl rfl (by kernel_rfl) (by kernel_rfl) (by kernel_rfl) (by kernel_rfl) rfl (yo_on rfl rfl (yo_load hT rfl rfl (v := .int .i64 x.state) (fun w' hS => Ex.cell hS (hb139.cell 9)))) ?_
      refine rw_one 14 rfl (by kernel_rfl) rfl (fun hcl => ?_)
      refine lw_gon_f rfl rfl ?_
      refine lw_call hT rfl rfl (reg_State (hR.ex (hx09'.trans hxab)) x.bill.number) ?_
      rintro _ _ ⟨rfl, rfl⟩
      rw [state_of hatx]
      (repeat (refine lw_nil ?_))
      refine qw_rw (by repeat (first | with_reducible refine nop_then ?_ | with_reducible refine nop_block ?_ | with_reducible exact nop_body)) hcl (fun _ => hxab) ?_
      (refine rw_takeP 17 rfl rfl (by kernel_rfl) (by kernel_rfl) (by kernel_rfl) (by kernel_rfl) rfl (yo_on rfl rfl (yo_pure hT rfl)) ?_)
      (refine rw_takeP 18 rfl rfl (by kernel_rfl) (by kernel_rfl) (by kernel_rfl) (by kernel_rfl) rfl (yo_pure hT rfl) ?_; refine rw_takeP 19 rfl rfl (by kernel_rfl) (by kernel_rfl) (by kernel_rfl) (by kernel_rfl) rfl (yo_pure hT rfl) ?_)
      refine rw_split (d := 117) rfl (fun e => absurd rfl (of_decide_eq_true e)) (fun _ => ?_)
      (refine rw_takeP 20 rfl rfl (by kernel_rfl) (by kernel_rfl) (by kernel_rfl) (by kernel_rfl) rfl (yo_on rfl rfl (yo_pure hT rfl)) ?_; refine rw_takeP 21 rfl rfl (by kernel_rfl) (by kernel_rfl) (by kernel_rfl) (by kernel_rfl) rfl (yo_on rfl rfl (yo_pure hT rfl)) ?_; refine rw_takeP 22 rfl rfl (by kernel_rfl) (by kernel_rfl) (by kernel_rfl) (by kernel_rfl) rfl (yo_on rfl rfl (yo_pure hT rfl)) ?_)
      (refine rw_takeP 23 rfl rfl (by kernel_rfl) (by kernel_rfl) (by kernel_rfl) (by kernel_rfl) rfl (yo_pure hT rfl) ?_; refine rw_takeP 24 rfl rfl (by kernel_rfl) (by kernel_rfl) (by kernel_rfl) (by kernel_rfl) rfl (yo_pure hT rfl) ?_)
      (refine rw_takeP 25 rfl rfl (by kernel_rfl) (by kernel_rfl) (by kernel_rfl) (by kernel_rfl) rfl (yo_on rfl rfl (yo_pure hT rfl)) ?_; refine rw_takeP 26 rfl rfl (by kernel_rfl) (by kernel_rfl) (by kernel_rfl) (by kernel_rfl) rfl (yo_on rfl rfl (yo_pure hT rfl)) ?_; refine rw_takeP 27 rfl rfl (by kernel_rfl) (by kernel_rfl) (by kernel_rfl) (by kernel_rfl) rfl (yo_on rfl rfl (yo_pure hT rfl)) ?_)
      refine rw_take 28 rfl rfl (by kernel_rfl) (by kernel_rfl) (by kernel_rfl) (by kernel_rfl) rfl (yo_on rfl rfl (yo_load hT rfl rfl (v := .string x.bill.number) (fun w' hS => Ex.cell hS (hb139.cell 0)))) ?_
      (refine rw_takeP 29 rfl rfl (by kernel_rfl) (by kernel_rfl) (by kernel_rfl) (by kernel_rfl) rfl (yo_on rfl rfl (yo_pure hT rfl)) ?_)
      refine rw_take 31 rfl rfl (by kernel_rfl) (by kernel_rfl) (by kernel_rfl) (by kernel_rfl) rfl (yo_on rfl rfl (yo_load_agg hT rfl rfl rfl (vs := encR r.carrier (.slice (some ⟨bL, oL, none⟩) r.l.length cL)) (fun w' hS => (hb59.ex hS).rd 0 2))) ?_
      (refine rw_takeP 32 rfl rfl (by kernel_rfl) (by kernel_rfl) (by kernel_rfl) (by kernel_rfl) rfl (yo_on rfl rfl (yo_pure hT rfl)) ?_; refine rw_takeP 33 rfl rfl (by kernel_rfl) (by kernel_rfl) (by kernel_rfl) (by kernel_rfl) rfl (yo_on rfl rfl (yo_pure hT rfl)) ?_)
      refine rw_take 34 rfl rfl (by kernel_rfl) (by kernel_rfl) (by kernel_rfl) (by kernel_rfl) rfl (yo_on rfl rfl (yo_load hT rfl rfl (v := .string x.bill.number) (fun w' hS => Ex.cell hS (hb139.cell 0)))) ?_
      (refine rw_takeP 35 rfl rfl (by kernel_rfl) (by kernel_rfl) (by kernel_rfl) (by kernel_rfl) rfl (yo_on rfl rfl (yo_pure hT rfl)) ?_)
      refine rw_one 30 rfl (by kernel_rfl) rfl (fun hcl => ?_)
      refine lw_gon_f rfl rfl ?_
      refine lw_call hT rfl rfl (reg_Full (hR.ex (hx09'.trans hxab)) x.bill.number who) ?_
      rintro _ wc ⟨rfl, hxc⟩
      have hxac := hxab.trans hxc
      (repeat (refine lw_nil ?_))
      refine qw_rw (by repeat (first | with_reducible refine nop_then ?_ | with_reducible refine nop_block ?_ | with_reducible exact nop_body)) hcl (fun _ => hxac) ?_
      refine rw_one 36 rfl (by kernel_rfl) rfl (fun hcl => ?_)
      refine lw_gon_f rfl rfl ?_
      refine lw_call hT rfl rfl (r23_Full r.carrier x.bill.number who (hF.ex (hx09'.trans hxac))) ?_
      rintro _ wd ⟨rfl, hxd⟩
      have hxad := hxac.trans hxd
      (repeat (refine lw_nil ?_))
      refine qw_rw (by repeat (first | with_reducible refine nop_then ?_ | with_reducible refine nop_block ?_ | with_reducible exact nop_body)) hcl (fun _ => hxad) ?_
      refine rw_takeP 37 rfl rfl (by kernel_rfl) (by kernel_rfl) (by kernel_rfl) (by kernel_rfl) rfl (yo_on rfl rfl (yo_neq_bool (by kernel_rfl) rfl rfl)) ?_
      (refine rw_takeP 38 rfl rfl (by kernel_rfl) (by kernel_rfl) (by kernel_rfl) (by kernel_rfl) rfl (yo_pure hT rfl) ?_)
      refine rw_done (by kernel_rfl) ?_
      have hff : (!(r.fullOf x.bill.number who == RegD.fullOf ⟨r.carrier, r.l⟩ x.bill.number who)) = false := by
        show (!(r.fullOf x.bill.number who == r.fullOf x.bill.number who)) = false
        simp
      rw [hff]
      exact qw_cut () (by repeat (first | exact trivial | refine ⟨rfl, ?_⟩)) hxad
    rintro _ w12 hx12
    unfold pB
    have hx012 := hx09'.trans hx12
    (repeat (first | refine lw_pure hT rfl ?_ | refine lw_nil ?_ | refine cw_seq ?_ | refine cw_region ?_ | refine qw_then ?_ | refine cw_skip ?_ | refine cw_block ?_ | (refine cw_cond_f rfl ?_ ?_; focus (first | with_reducible rfl | with_reducible exact Bool.not_false | with_reducible exact Bool.not_true))))
    refine cw_loop (fun k : Nat => [(0, .pointer (some ⟨p, 0, none⟩)), (2, .string who), (5, .pointer (some ⟨b5, 0, none⟩)), (12, .int .i64 (i : Nat)), (13, .pointer (some ⟨b13, 0, none⟩)), (16, .slice (some ⟨g16, 0, none⟩) 3 c16), (17, .int .i64 (k : Nat))]) (fun k w' => k ≤ 3 ∧ Ex w12 w') (fun k => 3 - k) 0 (by repeat (first | exact trivial | refine ⟨rfl, ?_⟩)) ⟨Nat.zero_le _, Ext.refl _ _⟩ ?_
    rintro k w13 ⟨hk, hx13⟩
    have hx9_13 := hx12.trans hx13
    have hx013 := hx09'.trans hx9_13
    (repeat (first | refine lw_pure hT rfl ?_ | refine lw_nil ?_ | refine cw_seq ?_ | refine cw_region ?_ | refine qw_then ?_))
    refine cw_cond rfl (fun e => ?_) (fun e => ?_)
    · have hk3 : k < 3 := by have := of_decide_eq_true e; omega
      have hE13 := hE9.ex hx9_13
      obtain ⟨vc, bP, oP, cP, hvP, _, hrP, hvk, hch⟩ := hE13.paper hk3
      obtain ⟨q, hq⟩ : ∃ q, q = papAt x k := ⟨_, rfl⟩
      rw [← hq] at hrP hch
      have hb1313 := hb139.ex hx9_13
      have hc10 := hb1313.cell 10
      replace hc10 : w13.cell? ⟨b13, 10, none⟩ = some (.slice (some ⟨bP, oP, none⟩) 3 cP) := by rw [hc10]; simp [entF, encB, hvP]
      (repeat (first | refine lw_pure hT rfl ?_ | refine cw_seq ?_ | refine cw_region ?_ | refine qw_then ?_ | refine cw_skip ?_ | refine cw_block ?_))
      refine lw_load hT rfl rfl hc10 ?_
      (repeat (refine lw_pure hT rfl ?_))
      refine lw_index hT rfl rfl rfl k rfl hk3 ?_
      skip
      refine lw_load_agg hT rfl rfl rfl (vs := [.int .i64 q.state, .string q.holder, vc]) hrP ?_
      skip
      refine lw_alloc z114 ?_
      intro b18 wa hbb18 hb18 hxa hsa
      skip
      refine lw_store_agg hT rfl rfl rfl rfl (by intro v hv; simp at hv; rcases hv with rfl | rfl | rfl <;> first | rfl | exact Sl.one hch) hb18 (show (3 : Nat) ≤ 3 by decide) ?_
      intro wb hb18b hxb hsb
      replace hb18b : Blk wb b18 [.int .i64 q.state, .string q.holder, vc] 114 := hb18b
      have hx13b : Ex w13 wb := hxa.up_new hxb (fun i h => by omega)
      (repeat (first | refine lw_pure hT rfl ?_ | refine lw_nil ?_ | refine cw_seq ?_ | refine cw_region ?_ | refine qw_then ?_))
      refine lw_load hT rfl rfl (v := .string x.bill.number) ((hb1313.ex hx13b).cell 0) ?_
      (repeat (refine lw_pure hT rfl ?_))
      refine lw_call hT rfl rfl (reg_Holder (hR.ex (hx013.trans hx13b)) x.bill.number k) ?_
      rintro _ w14 ⟨rfl, hx14⟩
      have hx1314 := hx13b.trans hx14
      have hx014 := hx013.trans hx1314
      rw [holder_there hatx h3 hk3, ← hq]
      have eH1 : (if thereB x q = true then some q.holder else none).isSome = thereB x q := by cases thereB x q <;> rfl
      have eH2 : (if thereB x q = true then some q.holder else none).getD (⟨#[]⟩ : ByteArray) = if thereB x q = true then q.holder else ⟨#[]⟩ := by cases thereB x q <;> rfl
      rw [eH1, eH2]
      have hb1314 := hb1313.ex hx1314
      have hb1814 := hb18b.ex hx14
      (iterate 5 (refine lw_pure hT rfl ?_))
      refine lw_nil ?_
      refine qw_then ?_
      refine cw_seq ?_
      refine cw_then_cut (α := Unit) (fun _ => [(0, pB p), (2, .string who), (5, pB b5), (12, .int .i64 (i : Nat)), (13, pB b13), (16, .slice (some ⟨g16, 0, none⟩) 3 c16), (17, .int .i64 (k : Nat)), (18, pB b18), (19, .string (if thereB x q = true then q.holder else ⟨#[]⟩)), (20, .bool (thereB x q)), (21, .bool (thereB x q))]) (fun _ w' => w14 = w') ?_ ?_
      · unfold pB
        (repeat (first | refine lw_pure hT rfl ?_ | refine cw_region ?_))
        refine lw_load hT rfl rfl (v := .int .i64 x.state) (hb1314.cell 9) ?_
        (repeat (refine lw_pure hT rfl ?_))
        refine lw_guard rfl (fun e1 => ?_) (fun e1 => ?_)
        · (repeat (first | refine lw_pure hT rfl ?_ | (refine lw_gon_t rfl ?_ ?_; focus (first | with_reducible rfl | with_reducible exact Bool.not_false | with_reducible exact Bool.not_true))))
          refine lw_load hT rfl rfl (v := .int .i64 q.state) (hb1814.cell 0) ?_
          (repeat (first | refine lw_pure hT rfl ?_ | (refine lw_gon_t rfl ?_ ?_; focus (first | with_reducible rfl | with_reducible exact Bool.not_false | with_reducible exact Bool.not_true))))
          refine lw_guard rfl (fun e2 => ?_) (fun e2 => ?_)
          · (repeat (first | refine lw_pure hT rfl ?_ | refine lw_nil ?_ | (refine lw_gon_t rfl ?_ ?_; focus (first | with_reducible rfl | with_reducible exact Bool.not_false | with_reducible exact Bool.not_true)) | (refine lw_goff_t rfl ?_ ?_; focus (first | with_reducible rfl | with_reducible exact Bool.not_false | with_reducible exact Bool.not_true))))
            have et : thereB x q = true := by unfold thereB; rw [e1, e2]; rfl
            rw [et]
            exact qw_cut () (by repeat (first | exact trivial | refine ⟨rfl, ?_⟩)) rfl
          · (repeat (first | refine lw_pure hT rfl ?_ | (refine lw_gon_f rfl ?_ ?_; focus (first | with_reducible rfl | with_reducible exact Bool.not_false | with_reducible exact Bool.not_true))))
            refine lw_load hT rfl rfl (v := .int .i64 q.state) (hb1814.cell 0) ?_
            (repeat (first | refine lw_pure hT rfl ?_ | refine lw_nil ?_ | (refine lw_gon_t rfl ?_ ?_; focus (first | with_reducible rfl | with_reducible exact Bool.not_false | with_reducible exact Bool.not_true)) | (refine lw_gon_f rfl ?_ ?_; focus (first | with_reducible rfl | with_reducible exact Bool.not_false | with_reducible exact Bool.not_true))))
            have et : thereB x q = decide (q.state = 3) := by unfold thereB; rw [e1, e2]; rfl
            rw [et]
            exact qw_cut () (by repeat (first | exact trivial | refine ⟨rfl, ?_⟩)) rfl
        · (repeat (first | refine lw_pure hT rfl ?_ | refine lw_nil ?_ | refine lw_goff_u rfl ?_ | (refine lw_goff_f rfl ?_ ?_; focus (first | with_reducible rfl | with_reducible exact Bool.not_false | with_reducible exact Bool.not_true))))
          have et : thereB x q = false := by unfold thereB; rw [e1]; rfl
          rw [et]
          exact qw_cut () (by repeat (first | exact trivial | refine ⟨rfl, ?_⟩)) rfl
      rintro _ _ rfl
      have hor14 : Rd w14 g16 (0 + k * 4) (origRow x.bill.number q k) := by rw [hq]; exact ((hrow k hk3).ex hx9_13).ex hx1314
      have hR14 := hR.ex hx014
      have hch14 := hch.ex hx1314
      refine qw_then ?_
      refine cw_seq ?_
      cases hth : thereB x q
      · refine cw_sub (fr' := [(0, .pointer (some ⟨p, 0, none⟩)), (2, .string who), (5, .pointer (some ⟨b5, 0, none⟩)), (12, .int .i64 (i : Nat)), (13, .pointer (some ⟨b13, 0, none⟩)), (16, .slice (some ⟨g16, 0, none⟩) 3 c16), (17, .int .i64 (k : Nat)), (18, .pointer (some ⟨b18, 0, none⟩)), (19, .string ⟨#[]⟩), (20, .bool false), (21, .bool false)]) (by repeat (first | exact trivial | refine ⟨rfl, ?_⟩)) ?_
        skip
        refine cw_draw hM (fun w' => Ex w14 w') [] rfl rfl (by repeat (first | with_reducible refine nop_then ?_ | with_reducible refine nop_block ?_ | with_reducible exact nop_body)) (fun w15 hx15 _ => ⟨hx15, ?_⟩)
        (refine rw_takeP 0 rfl rfl (by kernel_rfl) (by kernel_rfl) (by kernel_rfl) (by kernel_rfl) rfl (yo_pure hT rfl) ?_; refine rw_takeP 1 rfl rfl (by kernel_rfl) (by kernel_rfl) (by kernel_rfl) (by kernel_rfl) rfl (yo_pure hT rfl) ?_)
        refine rw_takeP 2 rfl rfl (by kernel_rfl) (by kernel_rfl) (by kernel_rfl) (by kernel_rfl) rfl (yo_index hT rfl rfl rfl k rfl hk3) ?_
        refine rw_take 3 rfl rfl (by kernel_rfl) (by kernel_rfl) (by kernel_rfl) (by kernel_rfl) rfl (yo_load_agg hT rfl rfl rfl (vs := origRow x.bill.number q k) (fun w' hS => hor14.ex hS)) ?_
        (refine rw_takeP 4 rfl rfl (by kernel_rfl) (by kernel_rfl) (by kernel_rfl) (by kernel_rfl) rfl (yo_pure hT rfl) ?_; refine rw_takeP 5 rfl rfl (by kernel_rfl) (by kernel_rfl) (by kernel_rfl) (by kernel_rfl) rfl (yo_pure hT rfl) ?_)
        refine rw_take 6 rfl rfl (by kernel_rfl) (by kernel_rfl) (by kernel_rfl) (by kernel_rfl) rfl (yo_load hT rfl rfl (v := .string x.bill.number) (fun w' hS => Ex.cell hS (hb1314.cell 0))) ?_
        (refine rw_takeP 7 rfl rfl (by kernel_rfl) (by kernel_rfl) (by kernel_rfl) (by kernel_rfl) rfl (yo_pure hT rfl) ?_; refine rw_takeP 8 rfl rfl (by kernel_rfl) (by kernel_rfl) (by kernel_rfl) (by kernel_rfl) rfl (yo_pure hT rfl) ?_)
        refine rw_take 9 rfl rfl (by kernel_rfl) (by kernel_rfl) (by kernel_rfl) (by kernel_rfl) rfl (yo_load hT rfl rfl (v := .int .i64 q.state) (fun w' hS => Ex.cell hS (hb1814.cell 0))) ?_
        (refine rw_takeP 10 rfl rfl (by kernel_rfl) (by kernel_rfl) (by kernel_rfl) (by kernel_rfl) rfl (yo_pure hT rfl) ?_)
        refine rw_take 11 rfl rfl (by kernel_rfl) (by kernel_rfl) (by kernel_rfl) (by kernel_rfl) rfl (yo_load hT rfl rfl (v := .string q.holder) (fun w' hS => Ex.cell hS (hb1814.cell 1))) ?_
        refine rw_takeP 12 rfl rfl (by kernel_rfl) (by kernel_rfl) (by kernel_rfl) (by kernel_rfl) rfl (yo_build bt54 rfl) ?_
        refine rw_takeP 13 rfl rfl (by kernel_rfl) (by kernel_rfl) (by kernel_rfl) (by kernel_rfl) rfl (yo_neq_same rfl rfl (orig_self x.bill.number q k)) ?_
        (refine rw_takeP 14 rfl rfl (by kernel_rfl) (by kernel_rfl) (by kernel_rfl) (by kernel_rfl) rfl (yo_pure hT rfl) ?_)
        (refine rw_takeP 15 rfl rfl (by kernel_rfl) (by kernel_rfl) (by kernel_rfl) (by kernel_rfl) rfl (yo_on rfl rfl (yo_pure hT rfl)) ?_; refine rw_takeP 16 rfl rfl (by kernel_rfl) (by kernel_rfl) (by kernel_rfl) (by kernel_rfl) rfl (yo_on rfl rfl (yo_pure hT rfl)) ?_)
        refine rw_takeP 17 rfl rfl (by kernel_rfl) (by kernel_rfl) (by kernel_rfl) (by kernel_rfl) rfl (yo_on rfl rfl (yo_neq_bool (by kernel_rfl) rfl rfl)) ?_
        (refine rw_takeP 18 rfl rfl (by kernel_rfl) (by kernel_rfl) (by kernel_rfl) (by kernel_rfl) rfl (yo_pure hT rfl) ?_; refine rw_takeP 19 rfl rfl (by kernel_rfl) (by kernel_rfl) (by kernel_rfl) (by kernel_rfl) rfl (yo_pure hT rfl) ?_)
        (refine rw_takeP 20 rfl rfl (by kernel_rfl) (by kernel_rfl) (by kernel_rfl) (by kernel_rfl) rfl (yo_on rfl rfl (yo_pure hT rfl)) ?_; refine rw_takeP 21 rfl rfl (by kernel_rfl) (by kernel_rfl) (by kernel_rfl) (by kernel_rfl) rfl (yo_on rfl rfl (yo_pure hT rfl)) ?_)
        (refine rw_takeP 22 rfl rfl (by kernel_rfl) (by kernel_rfl) (by kernel_rfl) (by kernel_rfl) rfl (yo_off rfl rfl) ?_; refine rw_takeP 23 rfl rfl (by kernel_rfl) (by kernel_rfl) (by kernel_rfl) (by kernel_rfl) rfl (yo_off rfl rfl) ?_; refine rw_takeP 24 rfl rfl (by kernel_rfl) (by kernel_rfl) (by kernel_rfl) (by kernel_rfl) rfl (yo_off rfl rfl) ?_; refine rw_takeP 25 rfl rfl (by kernel_rfl) (by kernel_rfl) (by kernel_rfl) (by kernel_rfl) rfl (yo_off rfl rfl) ?_)
        (refine rw_takeP 26 rfl rfl (by kernel_rfl) (by kernel_rfl) (by kernel_rfl) (by kernel_rfl) rfl (yo_on rfl rfl (yo_pure hT rfl)) ?_)
        (refine rw_takeP 27 rfl rfl (by kernel_rfl) (by kernel_rfl) (by kernel_rfl) (by kernel_rfl) rfl (yo_pure hT rfl) ?_; refine rw_takeP 28 rfl rfl (by kernel_rfl) (by kernel_rfl) (by kernel_rfl) (by kernel_rfl) rfl (yo_pure hT rfl) ?_)
        (refine rw_takeP 29 rfl rfl (by kernel_rfl) (by kernel_rfl) (by kernel_rfl) (by kernel_rfl) rfl (yo_on rfl rfl (yo_pure hT rfl)) ?_; refine rw_takeP 30 rfl rfl (by kernel_rfl) (by kernel_rfl) (by kernel_rfl) (by kernel_rfl) rfl (yo_on rfl rfl (yo_pure hT rfl)) ?_; refine rw_takeP 31 rfl rfl (by kernel_rfl) (by kernel_rfl) (by kernel_rfl) (by kernel_rfl) rfl (yo_on rfl rfl (yo_pure hT rfl)) ?_; refine rw_takeP 32 rfl rfl (by kernel_rfl) (by kernel_rfl) (by kernel_rfl) (by kernel_rfl) rfl (yo_on rfl rfl (yo_pure hT rfl)) ?_; refine rw_takeP 33 rfl rfl (by kernel_rfl) (by kernel_rfl) (by kernel_rfl) (by kernel_rfl) rfl (yo_on rfl rfl (yo_pure hT rfl)) ?_; refine rw_takeP 34 rfl rfl (by kernel_rfl) (by kernel_rfl) (by kernel_rfl) (by kernel_rfl) rfl (yo_on rfl rfl (yo_pure hT rfl)) ?_)
        (refine rw_takeP 35 rfl rfl (by kernel_rfl) (by kernel_rfl) (by kernel_rfl) (by kernel_rfl) rfl (yo_pure hT rfl) ?_; refine rw_takeP 36 rfl rfl (by kernel_rfl) (by kernel_rfl) (by kernel_rfl) (by kernel_rfl) rfl (yo_pure hT rfl) ?_)
        (refine rw_takeP 37 rfl rfl (by kernel_rfl) (by kernel_rfl) (by kernel_rfl) (by kernel_rfl) rfl (yo_on rfl rfl (yo_pure hT rfl)) ?_; refine rw_takeP 38 rfl rfl (by kernel_rfl) (by kernel_rfl) (by kernel_rfl) (by kernel_rfl) rfl (yo_on rfl rfl (yo_pure hT rfl)) ?_; refine rw_takeP 39 rfl rfl (by kernel_rfl) (by kernel_rfl) (by kernel_rfl) (by kernel_rfl) rfl (yo_on rfl rfl (yo_pure hT rfl)) ?_)
        refine rw_take 40 rfl rfl (by kernel_rfl) (by kernel_rfl) (by kernel_rfl) (by kernel_rfl) rfl (yo_on rfl rfl (yo_load hT rfl rfl (v := .string x.bill.number) (fun w' hS => Ex.cell hS (hb1314.cell 0)))) ?_
        (refine rw_takeP 41 rfl rfl (by kernel_rfl) (by kernel_rfl) (by kernel_rfl) (by kernel_rfl) rfl (yo_on rfl rfl (yo_pure hT rfl)) ?_; refine rw_takeP 43 rfl rfl (by kernel_rfl) (by kernel_rfl) (by kernel_rfl) (by kernel_rfl) rfl (yo_on rfl rfl (yo_pure hT rfl)) ?_)
        refine rw_take 44 rfl rfl (by kernel_rfl) (by kernel_rfl) (by kernel_rfl) (by kernel_rfl) rfl (yo_on rfl rfl (yo_load hT rfl rfl (v := vc) (fun w' hS => Ex.cell hS (hb1814.cell 2)))) ?_
        refine rw_one 42 rfl (by kernel_rfl) rfl (fun hcl => ?_)
        refine lw_gon_f rfl rfl ?_
        refine lw_call hT rfl rfl (reg_Chain (hR14.ex hx15) hsm x.bill.number k) ?_
        rintro uc w16 ⟨huc, hx16⟩
        rw [chain_of hatx h3 hk3, ← hq] at huc
        have hx1416 := hx15.trans hx16
        (repeat (refine lw_nil ?_))
        refine qw_rw (by repeat (first | with_reducible refine nop_then ?_ | with_reducible refine nop_block ?_ | with_reducible exact nop_body)) hcl (fun _ => hx1416) ?_
        refine rw_one 45 rfl (by kernel_rfl) rfl (fun hcl => ?_)
        refine lw_gon_f rfl rfl ?_
        have hc16 : ChainOk w16 uc q.chain := own_mono huc (Nat.zero_le _)
        refine lw_call hT rfl rfl (r23_Chains w16 (hc16.sl (A := fun _ => True) fun _ _ => trivial) (hch14.ex hx1416)) ?_
        rintro _ w17 ⟨rfl, hx17⟩
        have hx1417 := hx1416.trans hx17
        (repeat (refine lw_nil ?_))
        refine qw_rw (by repeat (first | with_reducible refine nop_then ?_ | with_reducible refine nop_block ?_ | with_reducible exact nop_body)) hcl (fun _ => hx1417) ?_
        (refine rw_takeP 46 rfl rfl (by kernel_rfl) (by kernel_rfl) (by kernel_rfl) (by kernel_rfl) rfl (yo_on rfl rfl (yo_pure hT rfl)) ?_)
        (refine rw_takeP 47 rfl rfl (by kernel_rfl) (by kernel_rfl) (by kernel_rfl) (by kernel_rfl) rfl (yo_pure hT rfl) ?_)
        refine rw_done (by kernel_rfl) ?_
        (repeat (first | (refine lw_add rfl rfl ?_ ?_ ?_; iterate 2 omega) | refine lw_pure hT rfl ?_ | refine lw_nil ?_ | refine cw_region ?_ | refine qw_then ?_ | refine cw_skip ?_ | refine qw_block ?_ | (refine cw_cond_f rfl ?_ ?_; focus (first | with_reducible rfl | with_reducible exact Bool.not_false | with_reducible exact Bool.not_true))))
        exact qw_round (k + 1) (by repeat (first | exact trivial | refine ⟨rfl, ?_⟩)) ⟨hk3, hx13.trans (hx1314.trans hx1417)⟩ (by omega)
      · refine cw_sub (fr' := [(0, .pointer (some ⟨p, 0, none⟩)), (2, .string who), (5, .pointer (some ⟨b5, 0, none⟩)), (12, .int .i64 (i : Nat)), (13, .pointer (some ⟨b13, 0, none⟩)), (16, .slice (some ⟨g16, 0, none⟩) 3 c16), (17, .int .i64 (k : Nat)), (18, .pointer (some ⟨b18, 0, none⟩)), (19, .string q.holder), (20, .bool true), (21, .bool true)]) (by repeat (first | exact trivial | refine ⟨rfl, ?_⟩)) ?_
        skip
        refine cw_draw hM (fun w' => Ex w14 w') [] rfl rfl (by repeat (first | with_reducible refine nop_then ?_ | with_reducible refine nop_block ?_ | with_reducible exact nop_body)) (fun w15 hx15 _ => ⟨hx15, ?_⟩)
        (refine rw_takeP 0 rfl rfl (by kernel_rfl) (by kernel_rfl) (by kernel_rfl) (by kernel_rfl) rfl (yo_pure hT rfl) ?_; refine rw_takeP 1 rfl rfl (by kernel_rfl) (by kernel_rfl) (by kernel_rfl) (by kernel_rfl) rfl (yo_pure hT rfl) ?_)
        refine rw_takeP 2 rfl rfl (by kernel_rfl) (by kernel_rfl) (by kernel_rfl) (by kernel_rfl) rfl (yo_index hT rfl rfl rfl k rfl hk3) ?_
        refine rw_take 3 rfl rfl (by kernel_rfl) (by kernel_rfl) (by kernel_rfl) (by kernel_rfl) rfl (yo_load_agg hT rfl rfl rfl (vs := origRow x.bill.number q k) (fun w' hS => hor14.ex hS)) ?_
        (refine rw_takeP 4 rfl rfl (by kernel_rfl) (by kernel_rfl) (by kernel_rfl) (by kernel_rfl) rfl (yo_pure hT rfl) ?_; refine rw_takeP 5 rfl rfl (by kernel_rfl) (by kernel_rfl) (by kernel_rfl) (by kernel_rfl) rfl (yo_pure hT rfl) ?_)
        refine rw_take 6 rfl rfl (by kernel_rfl) (by kernel_rfl) (by kernel_rfl) (by kernel_rfl) rfl (yo_load hT rfl rfl (v := .string x.bill.number) (fun w' hS => Ex.cell hS (hb1314.cell 0))) ?_
        (refine rw_takeP 7 rfl rfl (by kernel_rfl) (by kernel_rfl) (by kernel_rfl) (by kernel_rfl) rfl (yo_pure hT rfl) ?_; refine rw_takeP 8 rfl rfl (by kernel_rfl) (by kernel_rfl) (by kernel_rfl) (by kernel_rfl) rfl (yo_pure hT rfl) ?_)
        refine rw_take 9 rfl rfl (by kernel_rfl) (by kernel_rfl) (by kernel_rfl) (by kernel_rfl) rfl (yo_load hT rfl rfl (v := .int .i64 q.state) (fun w' hS => Ex.cell hS (hb1814.cell 0))) ?_
        (refine rw_takeP 10 rfl rfl (by kernel_rfl) (by kernel_rfl) (by kernel_rfl) (by kernel_rfl) rfl (yo_pure hT rfl) ?_)
        refine rw_take 11 rfl rfl (by kernel_rfl) (by kernel_rfl) (by kernel_rfl) (by kernel_rfl) rfl (yo_load hT rfl rfl (v := .string q.holder) (fun w' hS => Ex.cell hS (hb1814.cell 1))) ?_
        refine rw_takeP 12 rfl rfl (by kernel_rfl) (by kernel_rfl) (by kernel_rfl) (by kernel_rfl) rfl (yo_build bt54 rfl) ?_
        refine rw_takeP 13 rfl rfl (by kernel_rfl) (by kernel_rfl) (by kernel_rfl) (by kernel_rfl) rfl (yo_neq_same rfl rfl (orig_self x.bill.number q k)) ?_
        (refine rw_takeP 14 rfl rfl (by kernel_rfl) (by kernel_rfl) (by kernel_rfl) (by kernel_rfl) rfl (yo_pure hT rfl) ?_)
        (refine rw_takeP 15 rfl rfl (by kernel_rfl) (by kernel_rfl) (by kernel_rfl) (by kernel_rfl) rfl (yo_on rfl rfl (yo_pure hT rfl)) ?_; refine rw_takeP 16 rfl rfl (by kernel_rfl) (by kernel_rfl) (by kernel_rfl) (by kernel_rfl) rfl (yo_on rfl rfl (yo_pure hT rfl)) ?_)
        refine rw_takeP 17 rfl rfl (by kernel_rfl) (by kernel_rfl) (by kernel_rfl) (by kernel_rfl) rfl (yo_on rfl rfl (yo_neq_bool (by kernel_rfl) rfl rfl)) ?_
        (refine rw_takeP 18 rfl rfl (by kernel_rfl) (by kernel_rfl) (by kernel_rfl) (by kernel_rfl) rfl (yo_pure hT rfl) ?_; refine rw_takeP 19 rfl rfl (by kernel_rfl) (by kernel_rfl) (by kernel_rfl) (by kernel_rfl) rfl (yo_pure hT rfl) ?_)
        (refine rw_takeP 20 rfl rfl (by kernel_rfl) (by kernel_rfl) (by kernel_rfl) (by kernel_rfl) rfl (yo_on rfl rfl (yo_pure hT rfl)) ?_; refine rw_takeP 21 rfl rfl (by kernel_rfl) (by kernel_rfl) (by kernel_rfl) (by kernel_rfl) rfl (yo_on rfl rfl (yo_pure hT rfl)) ?_)
        (refine rw_takeP 22 rfl rfl (by kernel_rfl) (by kernel_rfl) (by kernel_rfl) (by kernel_rfl) rfl (yo_on rfl rfl (yo_pure hT rfl)) ?_; refine rw_takeP 23 rfl rfl (by kernel_rfl) (by kernel_rfl) (by kernel_rfl) (by kernel_rfl) rfl (yo_on rfl rfl (yo_pure hT rfl)) ?_)
        refine rw_take 24 rfl rfl (by kernel_rfl) (by kernel_rfl) (by kernel_rfl) (by kernel_rfl) rfl (yo_on rfl rfl (yo_load hT rfl rfl (v := .string q.holder) (fun w' hS => Ex.cell hS (hb1814.cell 1)))) ?_
        (refine rw_takeP 25 rfl rfl (by kernel_rfl) (by kernel_rfl) (by kernel_rfl) (by kernel_rfl) rfl (yo_on rfl rfl (yo_pure hT rfl)) ?_; refine rw_takeP 26 rfl rfl (by kernel_rfl) (by kernel_rfl) (by kernel_rfl) (by kernel_rfl) rfl (yo_on rfl rfl (yo_pure hT rfl)) ?_)
        (refine rw_takeP 27 rfl rfl (by kernel_rfl) (by kernel_rfl) (by kernel_rfl) (by kernel_rfl) rfl (yo_pure hT rfl) ?_; refine rw_takeP 28 rfl rfl (by kernel_rfl) (by kernel_rfl) (by kernel_rfl) (by kernel_rfl) rfl (yo_pure hT rfl) ?_)
        refine rw_split (d := 196) rfl (fun e => absurd rfl (of_decide_eq_true e)) (fun _ => ?_)
        (refine rw_takeP 29 rfl rfl (by kernel_rfl) (by kernel_rfl) (by kernel_rfl) (by kernel_rfl) rfl (yo_on rfl rfl (yo_pure hT rfl)) ?_; refine rw_takeP 30 rfl rfl (by kernel_rfl) (by kernel_rfl) (by kernel_rfl) (by kernel_rfl) rfl (yo_on rfl rfl (yo_pure hT rfl)) ?_; refine rw_takeP 31 rfl rfl (by kernel_rfl) (by kernel_rfl) (by kernel_rfl) (by kernel_rfl) rfl (yo_on rfl rfl (yo_pure hT rfl)) ?_)
        (refine rw_takeP 32 rfl rfl (by kernel_rfl) (by kernel_rfl) (by kernel_rfl) (by kernel_rfl) rfl (yo_off rfl rfl) ?_; refine rw_takeP 33 rfl rfl (by kernel_rfl) (by kernel_rfl) (by kernel_rfl) (by kernel_rfl) rfl (yo_off rfl rfl) ?_)
        (refine rw_takeP 34 rfl rfl (by kernel_rfl) (by kernel_rfl) (by kernel_rfl) (by kernel_rfl) rfl (yo_on rfl rfl (yo_pure hT rfl)) ?_)
        (refine rw_takeP 35 rfl rfl (by kernel_rfl) (by kernel_rfl) (by kernel_rfl) (by kernel_rfl) rfl (yo_pure hT rfl) ?_; refine rw_takeP 36 rfl rfl (by kernel_rfl) (by kernel_rfl) (by kernel_rfl) (by kernel_rfl) rfl (yo_pure hT rfl) ?_)
        (refine rw_takeP 37 rfl rfl (by kernel_rfl) (by kernel_rfl) (by kernel_rfl) (by kernel_rfl) rfl (yo_on rfl rfl (yo_pure hT rfl)) ?_; refine rw_takeP 38 rfl rfl (by kernel_rfl) (by kernel_rfl) (by kernel_rfl) (by kernel_rfl) rfl (yo_on rfl rfl (yo_pure hT rfl)) ?_; refine rw_takeP 39 rfl rfl (by kernel_rfl) (by kernel_rfl) (by kernel_rfl) (by kernel_rfl) rfl (yo_on rfl rfl (yo_pure hT rfl)) ?_)
        refine rw_take 40 rfl rfl (by kernel_rfl) (by kernel_rfl) (by kernel_rfl) (by kernel_rfl) rfl (yo_on rfl rfl (yo_load hT rfl rfl (v := .string x.bill.number) (fun w' hS => Ex.cell hS (hb1314.cell 0)))) ?_
        (refine rw_takeP 41 rfl rfl (by kernel_rfl) (by kernel_rfl) (by kernel_rfl) (by kernel_rfl) rfl (yo_on rfl rfl (yo_pure hT rfl)) ?_; refine rw_takeP 43 rfl rfl (by kernel_rfl) (by kernel_rfl) (by kernel_rfl) (by kernel_rfl) rfl (yo_on rfl rfl (yo_pure hT rfl)) ?_)
        refine rw_take 44 rfl rfl (by kernel_rfl) (by kernel_rfl) (by kernel_rfl) (by kernel_rfl) rfl (yo_on rfl rfl (yo_load hT rfl rfl (v := vc) (fun w' hS => Ex.cell hS (hb1814.cell 2)))) ?_
        refine rw_one 42 rfl (by kernel_rfl) rfl (fun hcl => ?_)
        refine lw_gon_f rfl rfl ?_
        refine lw_call hT rfl rfl (reg_Chain (hR14.ex hx15) hsm x.bill.number k) ?_
        rintro uc w16 ⟨huc, hx16⟩
        rw [chain_of hatx h3 hk3, ← hq] at huc
        have hx1416 := hx15.trans hx16
        (repeat (refine lw_nil ?_))
        refine qw_rw (by repeat (first | with_reducible refine nop_then ?_ | with_reducible refine nop_block ?_ | with_reducible exact nop_body)) hcl (fun _ => hx1416) ?_
        refine rw_one 45 rfl (by kernel_rfl) rfl (fun hcl => ?_)
        refine lw_gon_f rfl rfl ?_
        have hc16 : ChainOk w16 uc q.chain := own_mono huc (Nat.zero_le _)
        refine lw_call hT rfl rfl (r23_Chains w16 (hc16.sl (A := fun _ => True) fun _ _ => trivial) (hch14.ex hx1416)) ?_
        rintro _ w17 ⟨rfl, hx17⟩
        have hx1417 := hx1416.trans hx17
        (repeat (refine lw_nil ?_))
        refine qw_rw (by repeat (first | with_reducible refine nop_then ?_ | with_reducible refine nop_block ?_ | with_reducible exact nop_body)) hcl (fun _ => hx1417) ?_
        (refine rw_takeP 46 rfl rfl (by kernel_rfl) (by kernel_rfl) (by kernel_rfl) (by kernel_rfl) rfl (yo_on rfl rfl (yo_pure hT rfl)) ?_)
        (refine rw_takeP 47 rfl rfl (by kernel_rfl) (by kernel_rfl) (by kernel_rfl) (by kernel_rfl) rfl (yo_pure hT rfl) ?_)
        refine rw_done (by kernel_rfl) ?_
        (repeat (first | (refine lw_add rfl rfl ?_ ?_ ?_; iterate 2 omega) | refine lw_pure hT rfl ?_ | refine lw_nil ?_ | refine cw_region ?_ | refine qw_then ?_ | refine cw_skip ?_ | refine qw_block ?_ | (refine cw_cond_f rfl ?_ ?_; focus (first | with_reducible rfl | with_reducible exact Bool.not_false | with_reducible exact Bool.not_true))))
        exact qw_round (k + 1) (by repeat (first | exact trivial | refine ⟨rfl, ?_⟩)) ⟨hk3, hx13.trans (hx1314.trans hx1417)⟩ (by omega)
    · have ek : k = 3 := by have := of_decide_eq_false e; omega
      subst ek
      (repeat (first | (refine lw_add rfl rfl ?_ ?_ ?_; iterate 2 omega) | refine lw_pure hT rfl ?_ | refine lw_nil ?_ | refine cw_region ?_ | refine qw_then ?_ | refine cw_exit ?_ | refine qw_block ?_ | refine qw_block_exit ?_ | refine qw_then_exit ?_))
      exact qw_round (i + 1) (by repeat (first | exact trivial | refine ⟨rfl, ?_⟩)) ⟨hlt, (hx103.trans (hx35.trans hx58)).trans (hx9'.trans hx9_13)⟩ (by omega)
  · (repeat (first | refine lw_pure hT rfl ?_ | refine lw_nil ?_ | refine cw_seq ?_ | refine cw_region ?_ | refine qw_then ?_ | refine cw_ret ?_ | refine cw_exit ?_ | refine qw_block_exit ?_ | refine qw_then_exit ?_))
    exact qw_ret rfl ⟨rfl, hx03⟩
end Go.Proofs.YtfbjpfgglgffgaaGreat
