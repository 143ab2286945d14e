/- supercargolaw23.RegisterBoxes, walked: it answers true, whatever it is given. -/
import Derived.Test.YtfbjpfgglgffgaaGreatHd
set_option linter.unusedVariables false
set_option linter.unusedSimpArgs false
set_option linter.unusedSectionVars false
set_option linter.unnecessarySimpa false
namespace Go.SK
open Go
attribute [local semireducible] CW LW QW Ret Kn
section
variable {P : Program} {n : Nat} {fr : Fr} {ops : Array Oper} {S : World → Prop}
theorem yo_geqs {d t : Nat} {s u : ByteArray} {x y : Operand} {t' : TypeId} {ty : TypeId} {ps : String} {af : Array Edge} (hx : ev n fr x = some (.string s)) (hy : ev n fr y = some (.string u)) :
    YO P ops S n fr { dst := some d, op := .binOp .geq t x y t', type := ty, pos := ps, after := af, guard := none } (.bool (!(Op.bytesLess s.toList u.toList))) :=
  yo_run rfl fun a' hk w _ => by simp [execOp, ev_sound hk hx, ev_sound hk hy, eqGuard, binOp, Op.stringOp]
end
end Go.SK
namespace Go.Proofs.YtfbjpfgglgffgaaGreat
open Go Go.SK

theorem once_nodup : ∀ {l : List ByteArray}, onceB l = true → l.Nodup
  | [], _ => List.nodup_nil
  | x :: l, h => by
    simp only [onceB, Bool.and_eq_true, Bool.not_eq_true', List.any_eq_false, decide_eq_true_eq] at h
    exact List.nodup_cons.2 ⟨fun hm => h.1 x hm rfl, once_nodup h.2⟩
/-- Two live bills that hold one box are one. -/
theorem Good.one {k : Nat} {r : RegD} (hG : Good k r) {e x : EntD} {s : ByteArray} (he : e ∈ r.l) (hx : x ∈ r.l) (h1 : e.state = 0) (h2 : x.state = 0) (h3 : s ∈ e.bill.boxes) (h4 : s ∈ x.bill.boxes) : e = x := by
  obtain ⟨i, hi⟩ := List.getElem?_of_mem he
  obtain ⟨j, hj⟩ := List.getElem?_of_mem hx
  have := hG.box i j e x s hi hj h1 h2 h3 h4
  subst this
  rw [hi] at hj; cases hj; rfl
/-- What is seen: boxes of the bills ahead, and of this one. -/
def SeenP (r : RegD) (L : List ByteArray) (i : Nat) (bs : List ByteArray) (seen : List ByteArray) : Prop := ∀ s ∈ seen, (∃ (j : Nat) (e : EntD), j < i ∧ L[j]? = some e.bill.number ∧ e ∈ r.l ∧ e.state = 0 ∧ s ∈ e.bill.boxes) ∨ s ∈ bs
theorem seen_fresh {k : Nat} {r : RegD} (hG : Good k r) {L seen : List ByteArray} (hL : L.Nodup) {x : EntD} (hx : x ∈ r.l) (h0 : x.state = 0) {i : Nat} (hi : L[i]? = some x.bill.number) {q : Nat} (hq : q < x.bill.boxes.length) (h : SeenP r L i (x.bill.boxes.take q) seen) : x.bill.boxes[q] ∉ seen := by
  intro hm
  rcases h _ hm with ⟨j, e, hj, hje, he, he0, hes⟩ | h
  · have := hG.one he hx he0 h0 hes (List.getElem_mem hq)
    subst this
    obtain ⟨hjl, e1⟩ := List.getElem?_eq_some_iff.1 hje
    obtain ⟨hil, e2⟩ := List.getElem?_eq_some_iff.1 hi
    have := (List.pairwise_iff_getElem.1 hL) j i hjl hil hj
    exact this (e1.trans e2.symm)
  · have hn := once_nodup (may_len (hG.ent x hx).may).2.2.1
    obtain ⟨j, hj, e⟩ := List.getElem_of_mem h
    have hj' : j < q := by rw [List.length_take] at hj; omega
    rw [List.getElem_take] at e
    exact (List.pairwise_iff_getElem.1 hn) j q (by omega) hq hj' e
theorem Rising.nodup {L : List ByteArray} (h : Rising L) : L.Nodup := by
  refine List.Pairwise.imp (fun {x y} hxy e => ?_) h
  subst e
  rw [ltB_irrefl] at hxy; cases hxy
set_option maxHeartbeats 8000000 in
theorem l23_Boxes {A1 : Nat → Prop} {w : World} {v1 : Value} {l : List ActD} (h1 : ActsAt A1 w v1 l) :
    Ret Tryz.prog 3 [v1] w fun v w' => v = .bool true ∧ Ex w w' := by
  obtain ⟨p1, cap1, rfl, _, _⟩ := h1.is
  refine ret_of Tryz.func3 Tryz.ntmps3 rfl rfl rfl ?_
  (repeat (first | refine lw_pure hT rfl ?_ | refine lw_nil ?_ | refine cw_seq ?_ | refine cw_region ?_ | refine qw_then ?_))
  refine lw_call hT rfl rfl (l23_awake w) ?_
  rintro _ w1 ⟨rfl, hx1⟩
  (repeat (first | refine lw_pure hT rfl ?_ | refine lw_nil ?_ | refine cw_seq ?_ | refine cw_region ?_ | refine qw_then ?_ | refine cw_skip ?_ | (refine cw_cond_f rfl ?_ ?_; focus (first | with_reducible rfl | with_reducible exact Bool.not_false | with_reducible exact Bool.not_true))))
  refine lw_call hT rfl rfl (l23_right (h1.ex hx1)) ?_
  rintro _ w2 ⟨⟨b1, rfl, hr1⟩, hx2⟩
  (repeat (first | refine lw_pure hT rfl ?_ | refine lw_nil ?_ | refine qw_then ?_))
  have hx02 := hx1.trans hx2
  refine cw_cond rfl (fun e => ?_) (fun e => ?_)
  · (repeat (first | refine lw_pure hT rfl ?_ | refine lw_nil ?_ | refine cw_seq ?_ | refine cw_region ?_ | refine qw_then ?_ | refine cw_ret ?_ | refine qw_then_ret ?_))
    exact qw_ret rfl ⟨rfl, hx02⟩
  replace hr1 := hr1 (by simpa using e)
  (repeat (first | refine lw_pure hT rfl ?_ | refine cw_seq ?_ | refine cw_region ?_ | refine qw_then ?_ | refine cw_skip ?_))
  refine lw_call hT rfl rfl (l23_play (h1.ex hx02) hr1) ?_
  rintro _ w4 ⟨⟨p, m, gs, vL, fgs, A', rfl, hP⟩, hx4⟩
  have hx04 := hx02.trans hx4
  have hgood := good_run (good_new ⟨#[99]⟩) h1.ok hr1.2
  rw [Nat.zero_add] at hgood
  replace hgood : Good l.length (runA regC l) := hgood
  have hlen := hr1.1.1
  obtain ⟨r0, hr0⟩ : ∃ r0, r0 = runA regC l := ⟨_, rfl⟩
  rw [← hr0] at hgood hP
  have hl256 : r0.l.length ≤ 256 := by have := hgood.len; omega
  have hnsz : ∀ e ∈ r0.l, e.bill.number.size ≤ maxLen := fun e he => (hgood.ent e he).ok.number
  have hsm := hgood.small (by omega)
  (repeat (refine lw_pure hT rfl ?_))
  refine lw_alloc z28 ?_
  intro b8 w5 hbb8 hb8 hx5 hs5
  (repeat (refine lw_pure hT rfl ?_))
  refine lw_store_agg hT rfl rfl rfl rfl (by intro v hv; simp [encR] at hv; rcases hv with rfl | rfl <;> first | rfl | exact Sl.one hP.frep.sl) hb8 (show (2 : Nat) ≤ 2 by decide) ?_
  intro w6 hb86 hx6 hs6
  have hx46 : Ex w4 w6 := hx5.up_new hx6 (fun i h => by omega)
  have hx06 := hx04.trans hx46
  have hR6 := hP.rep.ex hx46
  (repeat (first | refine lw_pure hT rfl ?_ | refine lw_nil ?_ | refine cw_seq ?_ | refine cw_region ?_ | refine qw_then ?_ | refine cw_skip ?_ | (refine cw_cond_f rfl ?_ ?_; focus (first | with_reducible rfl | with_reducible exact Bool.not_false | with_reducible exact Bool.not_true)) | refine lw_eqp_some hT rfl rfl ?_))
  refine lw_makeMap ?_
  intro b31 w7 hbb7 hm7 hx7 hs7
  (repeat (first | refine lw_pure hT rfl ?_ | refine lw_nil ?_ | refine cw_seq ?_ | refine cw_region ?_ | refine qw_then ?_))
  refine lw_call hT rfl rfl (reg_Bills (hR6.ex hx7) hnsz hl256) ?_
  rintro vb w8 ⟨⟨L, hL1, hL2, hown⟩, hx8⟩
  have hx08 := (hx06.trans hx7).trans hx8
  have hR8 := (hR6.ex hx7).ex hx8
  have hm8 := hm7.ex hx8
  have hl06 := hx06.size
  have hLl : L.length ≤ 256 := by have := hL2.length_eq; simp [RegD.nums] at this; omega
  have hLn := hL1.nodup
  have hsl : SlS (fun b => w7.heap.size ≤ b) w8 vb L := sls_own hown fun b hb => (own_base hown hb).1
  obtain ⟨a8, c8, rfl, _, hr8⟩ := hsl.is
  simp only [List.length_map] at *
  have hfl6 : ∀ b ∈ foot p m gs, b ≠ b31 := fun b hb e => by have := hR6.foot_lt hb; omega
  (repeat (first | refine lw_pure hT rfl ?_ | refine lw_nil ?_ | refine cw_seq ?_ | refine cw_region ?_ | refine qw_then ?_ | refine cw_block ?_))
  refine cw_loop (fun i : Nat => [(3, pB p), (5, .map (some b31)), (6, .slice a8 L.length c8), (7, .int .i64 (i : Nat))])
    (fun i w' => i ≤ L.length ∧ Ext (· = b31) w8 w' ∧ ∃ seen, Mp w' b31 (seen.map fun s => (s, Value.bool true)) ∧ SeenP r0 L i [] seen) (fun i => L.length - i) 0 (by repeat (first | exact trivial | refine ⟨rfl, ?_⟩)) ⟨Nat.zero_le _, Ext.refl _ _, [], hm8, fun s hs => by simp at hs⟩ ?_
  rintro i w9 ⟨hi, hx89, seen, hmp, hseen⟩
  have hx09 : Ex w w9 := hx08.up_new hx89 (fun b hb => by omega)
  unfold pB
  (repeat (first | refine lw_pure hT rfl ?_ | refine lw_nil ?_ | refine cw_seq ?_ | refine cw_region ?_ | refine qw_then ?_))
  refine cw_cond rfl (fun e => ?_) (fun e => ?_)
  · have hlt : i < L.length := by have := of_decide_eq_true e; omega
    have hne : L.map (fun s => [Value.string s]) ≠ [] := by intro e; simp at e; rw [e] at hlt; simp at hlt
    obtain ⟨bb, oo, rfl, hbb, hrd8⟩ := hr8 hne
    have rdL : ∀ (j : Nat) (hj : j < L.length) (w' : World), Ext (· = b31) w8 w' → w'.cell? ⟨bb, oo + j * 1, none⟩ = some (.string L[j]) := fun j hj w' hx => by
      have := ((hrd8 j [.string L[j]] (by simp [hj])).2.ext hx (by omega)) 0 _ rfl
      exact this
    have hmem : L[i] ∈ r0.nums := hL2.mem_iff.1 (List.getElem_mem hlt)
    obtain ⟨x, hxm, hxn⟩ := List.mem_map.1 hmem
    have hat : r0.at? x.bill.number = some x := at_self hgood.nd hxm
    have hxi : L[i]? = some x.bill.number := by rw [List.getElem?_eq_getElem hlt, hxn]
    have hR9 := hR8.frame hx89 (fun b hb => hfl6 b hb)
    have rdi : ∀ (w' : World), Ext (· = b31) w8 w' → w'.cell? ⟨bb, oo + i * 1, none⟩ = some (.string x.bill.number) := fun w' hx => by rw [rdL i hlt w' hx, hxn]
    (repeat (first | refine cw_seq ?_ | refine qw_then ?_ | refine cw_skip ?_ | refine cw_block ?_))
    refine cw_then_cut (α := Bool) (fun u => [(3, pB p), (5, .map (some b31)), (6, .slice (some ⟨bb, oo, none⟩) L.length c8), (7, .int .i64 (i : Nat)), (47, .bool u)]) (fun u w' => u = false ∧ Ex w9 w') ?_ ?_
    · unfold pB
      refine cw_draw hM (fun w' => Ex w9 w') [] rfl rfl (by repeat (first | with_reducible refine nop_then ?_ | with_reducible refine nop_block ?_ | with_reducible exact nop_body)) (fun w10 hx10 _ => ⟨hx10, ?_⟩)
      (refine rw_takeP 0 rfl rfl (by kernel_rfl) (by kernel_rfl) (by kernel_rfl) (by kernel_rfl) rfl (yo_pure hT rfl) ?_; refine rw_takeP 1 rfl rfl (by kernel_rfl) (by kernel_rfl) (by kernel_rfl) (by kernel_rfl) rfl (yo_pure hT rfl) ?_; refine rw_takeP 2 rfl rfl (by kernel_rfl) (by kernel_rfl) (by kernel_rfl) (by kernel_rfl) rfl (yo_pure hT rfl) ?_)
      refine rw_split (d := 36) rfl (fun hb => ?_) (fun hb => ?_)
      · have hi1 : i - 1 < L.length := by omega
        have hi0 : 0 < i := by have := of_decide_eq_true hb; omega
        have hlow : Op.bytesLess (L[i - 1]).toList (x.bill.number).toList = true := by
          rw [hxn]
          exact (List.pairwise_iff_getElem.1 hL1) (i - 1) i hi1 hlt (by omega)
        (refine rw_takeP 3 rfl rfl (by kernel_rfl) (by kernel_rfl) (by kernel_rfl) (by kernel_rfl) rfl (yo_on rfl rfl (yo_pure hT rfl)) ?_; refine rw_takeP 4 rfl rfl (by kernel_rfl) (by kernel_rfl) (by kernel_rfl) (by kernel_rfl) rfl (yo_on rfl rfl (yo_pure hT rfl)) ?_; refine rw_takeP 5 rfl rfl (by kernel_rfl) (by kernel_rfl) (by kernel_rfl) (by kernel_rfl) rfl (yo_on rfl rfl (yo_pure hT rfl)) ?_)
        refine rw_takeP 6 rfl rfl (by kernel_rfl) (by kernel_rfl) (by kernel_rfl) (by kernel_rfl) rfl (yo_on rfl rfl (yo_index hT rfl rfl rfl (i - 1) (by rw [IntWalk.i64_in _ ⟨by omega, by omega⟩]; omega) hi1)) ?_
        refine rw_take 7 rfl rfl (by kernel_rfl) (by kernel_rfl) (by kernel_rfl) (by kernel_rfl) rfl (yo_on rfl rfl (yo_load hT rfl rfl (v := .string L[i - 1]) (fun w' hS => rdL _ hi1 w' (hx89.up hS)))) ?_
        (refine rw_takeP 8 rfl rfl (by kernel_rfl) (by kernel_rfl) (by kernel_rfl) (by kernel_rfl) rfl (yo_on rfl rfl (yo_pure hT rfl)) ?_; refine rw_takeP 9 rfl rfl (by kernel_rfl) (by kernel_rfl) (by kernel_rfl) (by kernel_rfl) rfl (yo_on rfl rfl (yo_pure hT rfl)) ?_)
        refine rw_takeP 10 rfl rfl (by kernel_rfl) (by kernel_rfl) (by kernel_rfl) (by kernel_rfl) rfl (yo_on rfl rfl (yo_index hT rfl rfl rfl i rfl hlt)) ?_
        refine rw_take 11 rfl rfl (by kernel_rfl) (by kernel_rfl) (by kernel_rfl) (by kernel_rfl) rfl (yo_on rfl rfl (yo_load hT rfl rfl (v := .string x.bill.number) (fun w' hS => rdi w' (hx89.up hS)))) ?_
        refine rw_takeP 12 rfl rfl (by kernel_rfl) (by kernel_rfl) (by kernel_rfl) (by kernel_rfl) rfl (yo_on rfl rfl (yo_geqs rfl rfl)) ?_
        (refine rw_takeP 13 rfl rfl (by kernel_rfl) (by kernel_rfl) (by kernel_rfl) (by kernel_rfl) rfl (yo_pure hT rfl) ?_)
        refine rw_done (by kernel_rfl) ?_
        skip
        exact qw_cut _ (by repeat (first | exact trivial | refine ⟨rfl, ?_⟩)) ⟨by rw [hlow]; rfl, hx10⟩
      · (refine rw_takeP 3 rfl rfl (by kernel_rfl) (by kernel_rfl) (by kernel_rfl) (by kernel_rfl) rfl (yo_off rfl rfl) ?_; refine rw_takeP 4 rfl rfl (by kernel_rfl) (by kernel_rfl) (by kernel_rfl) (by kernel_rfl) rfl (yo_off rfl rfl) ?_; refine rw_takeP 5 rfl rfl (by kernel_rfl) (by kernel_rfl) (by kernel_rfl) (by kernel_rfl) rfl (yo_off rfl rfl) ?_; refine rw_takeP 6 rfl rfl (by kernel_rfl) (by kernel_rfl) (by kernel_rfl) (by kernel_rfl) rfl (yo_off rfl rfl) ?_; refine rw_takeP 7 rfl rfl (by kernel_rfl) (by kernel_rfl) (by kernel_rfl) (by kernel_rfl) rfl (yo_off rfl rfl) ?_; refine rw_takeP 8 rfl rfl (by kernel_rfl) (by kernel_rfl) (by kernel_rfl) (by kernel_rfl) rfl (yo_off rfl rfl) ?_; refine rw_takeP 9 rfl rfl (by kernel_rfl) (by kernel_rfl) (by kernel_rfl) (by kernel_rfl) rfl (yo_off rfl rfl) ?_; refine rw_takeP 10 rfl rfl (by kernel_rfl) (by kernel_rfl) (by kernel_rfl) (by kernel_rfl) rfl (yo_off rfl rfl) ?_; refine rw_takeP 11 rfl rfl (by kernel_rfl) (by kernel_rfl) (by kernel_rfl) (by kernel_rfl) rfl (yo_off rfl rfl) ?_; refine rw_takeP 12 rfl rfl (by kernel_rfl) (by kernel_rfl) (by kernel_rfl) (by kernel_rfl) rfl (yo_off rfl rfl) ?_)
        (refine rw_takeP 13 rfl rfl (by kernel_rfl) (by kernel_rfl) (by kernel_rfl) (by kernel_rfl) rfl (yo_pure hT rfl) ?_)
        refine rw_done (by kernel_rfl) ?_
        skip
        exact qw_cut false (by repeat (first | exact trivial | refine ⟨rfl, ?_⟩)) ⟨rfl, hx10⟩
    rintro _ w10 ⟨rfl, hx10⟩
    have hx810 := hx89.up hx10
    unfold pB
    (repeat (first | refine lw_pure hT rfl ?_ | refine cw_seq ?_ | refine cw_region ?_ | refine qw_then ?_ | refine cw_skip ?_ | (refine cw_cond_f rfl ?_ ?_; focus (first | with_reducible rfl | with_reducible exact Bool.not_false | with_reducible exact Bool.not_true))))
    refine lw_index hT rfl rfl rfl i rfl hlt ?_
    skip
    refine lw_load hT rfl rfl (v := .string x.bill.number) (rdi _ hx810) ?_
    skip
    refine lw_call hT rfl rfl (reg_Get (hR9.ex hx10) hsm x.bill.number) ?_
    rintro _ w11 ⟨hget, hx11⟩
    unfold GetR at hget
    rw [hat] at hget
    obtain ⟨ub, up, rfl, hub, hup⟩ := hget
    (repeat (refine lw_pure hT rfl ?_))
    refine lw_alloc z35 ?_
    intro b10 w12 hbb10 hb10 hx12 hs12
    skip
    refine lw_store_agg hT rfl rfl rfl rfl (encB_one (A := fun _ => True) (w := w) (own_one hub) (own_one hup)) hb10 (show (9 : Nat) ≤ 9 by decide) ?_
    intro w13 hb13 hx13 hs13
    replace hb13 : Blk w13 b10 (encB x.bill ub up) 35 := hb13
    have hx1113 : Ex w11 w13 := hx12.up_new hx13 (fun i h => by omega)
    have hx913 := (hx10.trans hx11).trans hx1113
    have hx813 := hx89.up hx913
    have hl813 := hx813.size
    have hl78 := hx8.size
    have hl910 := hx10.size
    have hl1011 := hx11.size
    have hl89 := hx89.size
    (repeat (first | refine lw_pure hT rfl ?_ | refine lw_nil ?_ | refine cw_seq ?_ | refine qw_then ?_))
    refine cw_then_cut (α := Bool) (fun u => [(3, pB p), (5, .map (some b31)), (6, .slice (some ⟨bb, oo, none⟩) L.length c8), (7, .int .i64 (i : Nat)), (8, pB b10), (67, .bool u)]) (fun u w' => u = false ∧ Ex w13 w') ?_ ?_
    · unfold pB
      refine cw_draw hM (fun w' => Ex w13 w') [] rfl rfl (by repeat (first | with_reducible refine nop_then ?_ | with_reducible refine nop_block ?_ | with_reducible exact nop_body)) (fun w14 hx14 _ => ⟨hx14, ?_⟩)
      (refine rw_takeP 0 rfl rfl (by kernel_rfl) (by kernel_rfl) (by kernel_rfl) (by kernel_rfl) rfl (yo_pure hT rfl) ?_; refine rw_takeP 1 rfl rfl (by kernel_rfl) (by kernel_rfl) (by kernel_rfl) (by kernel_rfl) rfl (yo_pure hT rfl) ?_; refine rw_takeP 2 rfl rfl (by kernel_rfl) (by kernel_rfl) (by kernel_rfl) (by kernel_rfl) rfl (yo_pure hT rfl) ?_)
      (refine rw_takeP 3 rfl rfl (by kernel_rfl) (by kernel_rfl) (by kernel_rfl) (by kernel_rfl) rfl (yo_on rfl rfl (yo_pure hT rfl)) ?_)
      refine rw_take 4 rfl rfl (by kernel_rfl) (by kernel_rfl) (by kernel_rfl) (by kernel_rfl) rfl (yo_on rfl rfl (yo_load hT rfl rfl (v := .string x.bill.number) (fun w' hS => (hb13.ex hS).cell 0))) ?_
      (refine rw_takeP 5 rfl rfl (by kernel_rfl) (by kernel_rfl) (by kernel_rfl) (by kernel_rfl) rfl (yo_on rfl rfl (yo_pure hT rfl)) ?_; refine rw_takeP 6 rfl rfl (by kernel_rfl) (by kernel_rfl) (by kernel_rfl) (by kernel_rfl) rfl (yo_on rfl rfl (yo_pure hT rfl)) ?_)
      refine rw_takeP 7 rfl rfl (by kernel_rfl) (by kernel_rfl) (by kernel_rfl) (by kernel_rfl) rfl (yo_on rfl rfl (yo_index hT rfl rfl rfl i rfl hlt)) ?_
      refine rw_take 8 rfl rfl (by kernel_rfl) (by kernel_rfl) (by kernel_rfl) (by kernel_rfl) rfl (yo_on rfl rfl (yo_load hT rfl rfl (v := .string x.bill.number) (fun w' hS => rdi w' (hx813.up hS)))) ?_
      (refine rw_takeP 9 rfl rfl (by kernel_rfl) (by kernel_rfl) (by kernel_rfl) (by kernel_rfl) rfl (yo_on rfl rfl (yo_pure hT rfl)) ?_)
      (refine rw_takeP 10 rfl rfl (by kernel_rfl) (by kernel_rfl) (by kernel_rfl) (by kernel_rfl) rfl (yo_pure hT rfl) ?_)
      refine rw_done (by kernel_rfl) ?_
      skip
      exact qw_cut _ (by repeat (first | exact trivial | refine ⟨rfl, ?_⟩)) ⟨by simp, hx14⟩
    rintro _ w14 ⟨rfl, hx14⟩
    have hx914 := hx913.trans hx14
    have hx814 := hx89.up hx914
    unfold pB
    (repeat (first | refine lw_pure hT rfl ?_ | refine cw_seq ?_ | refine cw_region ?_ | refine qw_then ?_ | refine cw_skip ?_ | (refine cw_cond_f rfl ?_ ?_; focus (first | with_reducible rfl | with_reducible exact Bool.not_false | with_reducible exact Bool.not_true))))
    refine lw_index hT rfl rfl rfl i rfl hlt ?_
    skip
    refine lw_load hT rfl rfl (v := .string x.bill.number) (rdi _ hx814) ?_
    skip
    refine lw_call hT rfl rfl (reg_State (hR9.ex hx914) x.bill.number) ?_
    rintro _ _ ⟨rfl, rfl⟩
    rw [state_of hat]
    (repeat (first | refine lw_pure hT rfl ?_ | refine lw_nil ?_ | refine qw_then ?_))
    refine cw_cond rfl (fun e0 => ?_) (fun e0 => ?_)
    · (repeat (first | (refine lw_add rfl rfl ?_ ?_ ?_; iterate 2 omega) | refine lw_pure hT rfl ?_ | refine lw_nil ?_ | refine cw_region ?_ | refine qw_then ?_ | refine cw_exit ?_ | refine qw_block_exit ?_ | refine qw_then_exit ?_))
      exact qw_round (i + 1) (by repeat (first | exact trivial | refine ⟨rfl, ?_⟩)) ⟨hlt, hx814, seen, hmp.ex hx914, fun s hs => by
        rcases hseen s hs with ⟨j, e, h1, h2⟩ | h
        · exact .inl ⟨j, e, by omega, h2⟩
        · simp at h⟩ (by omega)
    have hx0 : x.state = 0 := by simpa using e0
    have hb14 := hb13.ex hx14
    have hub14 := own_ex hub (hx1113.trans hx14)
    have hbs : SlS (fun b => w10.heap.size ≤ b) w14 ub x.bill.boxes := sls_own hub14 fun b hb => (own_base hub14 hb).1
    obtain ⟨a15, c15, rfl, _, hr15⟩ := hbs.is
    simp only [List.length_map] at *
    have hb31 := hmp.lt
    (repeat (first | refine lw_pure hT rfl ?_ | refine lw_nil ?_ | refine cw_seq ?_ | refine cw_region ?_ | refine qw_then ?_ | refine cw_skip ?_ | refine cw_block ?_))
    refine cw_loop (fun k : Nat => [(3, pB p), (5, .map (some b31)), (6, .slice (some ⟨bb, oo, none⟩) L.length c8), (7, .int .i64 (i : Nat)), (8, pB b10), (10, .int .i64 (k : Nat))])
      (fun k w' => k ≤ x.bill.boxes.length ∧ Ext (· = b31) w14 w' ∧ ∃ seen, Mp w' b31 (seen.map fun s => (s, Value.bool true)) ∧ SeenP r0 L i (x.bill.boxes.take k) seen) (fun k => x.bill.boxes.length - k) 0 (by repeat (first | exact trivial | refine ⟨rfl, ?_⟩)) ⟨Nat.zero_le _, Ext.refl _ _, seen, hmp.ex hx914, by rw [List.take_zero]; exact hseen⟩ ?_
    rintro k w15 ⟨hk, hx15, seen, hmp, hseen⟩
    have hx815 : Ext (· = b31) w8 w15 := hx814.trans' hx15 (fun _ _ h => h) (fun _ _ h => h)
    have hb15 := hb14.ext hx15 (by omega)
    unfold pB
    have hbm := (may_len (hgood.ent x hxm).may).1
    (repeat (first | refine lw_pure hT rfl ?_ | refine cw_seq ?_ | refine cw_region ?_))
    refine lw_load hT rfl rfl (v := .slice a15 x.bill.boxes.length c15) (hb15.cell 5) ?_
    (repeat (first | refine lw_pure hT rfl ?_ | refine lw_nil ?_ | refine qw_then ?_))
    refine cw_cond rfl (fun e => ?_) (fun e => ?_)
    · have hkl : k < x.bill.boxes.length := by have := of_decide_eq_true e; omega
      have hne : x.bill.boxes.map (fun s => [Value.string s]) ≠ [] := by intro e; simp at e; rw [e] at hkl; simp at hkl
      obtain ⟨b2, o2, rfl, hb2, hrd15⟩ := hr15 hne
      have rdB : ∀ w' : World, Ext (· = b31) w14 w' → w'.cell? ⟨b2, o2 + k * 1, none⟩ = some (.string x.bill.boxes[k]) := fun w' hx => by
        have := ((hrd15 k [.string x.bill.boxes[k]] (by simp [hkl])).2.ext hx (by omega)) 0 _ rfl
        exact this
      obtain ⟨s, hs⟩ : ∃ s, s = x.bill.boxes[k] := ⟨_, rfl⟩
      have hfresh := seen_fresh hgood hLn hxm hx0 hxi hkl hseen
      rw [← hs] at hfresh rdB
      have hsx : s ∈ x.bill.boxes := hs ▸ List.getElem_mem hkl
      have hR15 := hR8.frame hx815 (fun b hb => hfl6 b hb)
      (repeat (first | refine lw_pure hT rfl ?_ | refine cw_seq ?_ | refine cw_region ?_ | refine qw_then ?_ | refine cw_skip ?_ | refine cw_block ?_))
      refine lw_load hT rfl rfl (v := .slice (some ⟨b2, o2, none⟩) x.bill.boxes.length c15) (hb15.cell 5) ?_
      (repeat (refine lw_pure hT rfl ?_))
      refine lw_index hT rfl rfl rfl k rfl hkl ?_
      skip
      refine lw_load hT rfl rfl (v := .string s) (rdB _ hx15) ?_
      skip
      refine lw_call hT rfl rfl (reg_Box hR15 s) ?_
      rintro u16 w16 ⟨hbox, hx16⟩
      have hu : u16 = .tuple #[.string x.bill.number, .bool true] := by
        rcases hbox with ⟨_, hno⟩ | ⟨e, he, hh, hv⟩
        · exfalso
          unfold RegD.boxed at hno
          rw [List.any_eq_false] at hno
          refine hno x hxm ?_
          unfold EntD.has
          rw [hx0]
          simpa using hsx
        · unfold EntD.has at hh
          simp only [Bool.and_eq_true, decide_eq_true_eq, List.any_eq_true] at hh
          obtain ⟨he0, y, hy, rfl⟩ := hh
          have := hgood.one he hxm he0 hx0 hy hsx
          subst this
          exact hv
      subst hu
      have hx1416 := hx15.up hx16
      have hx816 := hx815.up hx16
      have hb16 := hb15.ex hx16
      have hmp16 := hmp.ex hx16
      (repeat (first | refine lw_pure hT rfl ?_ | refine lw_nil ?_ | refine cw_seq ?_ | refine cw_region ?_ | refine qw_then ?_ | (refine lw_gon_f rfl ?_ ?_; focus (first | with_reducible rfl | with_reducible exact Bool.not_false | with_reducible exact Bool.not_true))))
      refine lw_index hT rfl rfl rfl i rfl hlt ?_
      (repeat (refine lw_gon_f rfl ?_ ?_; focus (first | with_reducible rfl | with_reducible exact Bool.not_false | with_reducible exact Bool.not_true)))
      refine lw_load hT rfl rfl (v := .string x.bill.number) (rdi _ hx816) ?_
      (repeat (first | refine lw_pure hT rfl ?_ | (refine lw_gon_f rfl ?_ ?_; focus (first | with_reducible rfl | with_reducible exact Bool.not_false | with_reducible exact Bool.not_true))))
      refine lw_guard rfl (fun e => absurd rfl (of_decide_eq_true e)) (fun _ => ?_)
      (repeat (first | refine lw_pure hT rfl ?_ | (refine lw_gon_f rfl ?_ ?_; focus (first | with_reducible rfl | with_reducible exact Bool.not_false | with_reducible exact Bool.not_true))))
      refine lw_load hT rfl rfl (v := .slice (some ⟨b2, o2, none⟩) x.bill.boxes.length c15) (hb16.cell 5) ?_
      (repeat (first | refine lw_pure hT rfl ?_ | (refine lw_gon_f rfl ?_ ?_; focus (first | with_reducible rfl | with_reducible exact Bool.not_false | with_reducible exact Bool.not_true))))
      refine lw_index hT rfl rfl rfl k rfl hkl ?_
      (repeat (refine lw_gon_f rfl ?_ ?_; focus (first | with_reducible rfl | with_reducible exact Bool.not_false | with_reducible exact Bool.not_true)))
      refine lw_load hT rfl rfl (v := .string s) (rdB _ hx1416) ?_
      (repeat (refine lw_gon_f rfl ?_ ?_; focus (first | with_reducible rfl | with_reducible exact Bool.not_false | with_reducible exact Bool.not_true)))
      have hnone : mget (seen.map fun s => (s, Value.bool true)) s = none := mget_seen_none (by rw [List.any_eq_false]; intro y hy h; have := of_decide_eq_true h; exact hfresh (this ▸ hy))
      refine lw_lookup mp31 rfl rfl hmp16 ?_
      rw [hnone]
      (repeat (first | refine lw_pure hT rfl ?_ | refine lw_nil ?_ | refine cw_region ?_ | refine qw_then ?_ | refine cw_skip ?_ | (refine cw_cond_f rfl ?_ ?_; focus (first | with_reducible rfl | with_reducible exact Bool.not_false | with_reducible exact Bool.not_true))))
      refine lw_load hT rfl rfl (v := .slice (some ⟨b2, o2, none⟩) x.bill.boxes.length c15) (hb16.cell 5) ?_
      (repeat (refine lw_pure hT rfl ?_))
      refine lw_index hT rfl rfl rfl k rfl hkl ?_
      skip
      refine lw_load hT rfl rfl (v := .string s) (rdB _ hx1416) ?_
      skip
      refine lw_mapUpdate mp31 rfl rfl rfl hmp16 hnone ?_
      intro w17 hm17 hx17 hs17
      (repeat (first | (refine lw_add rfl rfl ?_ ?_ ?_; iterate 2 omega) | refine lw_pure hT rfl ?_ | refine lw_nil ?_ | refine cw_region ?_ | refine qw_then ?_ | refine qw_block ?_))
      refine qw_round (k + 1) (by repeat (first | exact trivial | refine ⟨rfl, ?_⟩)) ⟨hkl, hx1416.trans' hx17 (fun _ _ h => h) (fun _ _ h => h), seen ++ [s], by simpa using hm17, fun s' hs' => ?_⟩ (by omega)
      rw [List.take_succ_eq_append_getElem hkl, ← hs]
      rcases List.mem_append.1 hs' with h | h
      · rcases hseen s' h with h | h
        · exact .inl h
        · exact .inr (List.mem_append_left _ h)
      · exact .inr (List.mem_append_right _ h)
    · have hkl : k = x.bill.boxes.length := by have := of_decide_eq_false e; omega
      subst hkl
      rw [List.take_length] at hseen
      (repeat (first | (refine lw_add rfl rfl ?_ ?_ ?_; iterate 2 omega) | refine lw_pure hT rfl ?_ | refine lw_nil ?_ | refine cw_region ?_ | refine qw_then ?_ | refine cw_exit ?_ | refine qw_block ?_ | refine qw_block_exit ?_ | refine qw_then_exit ?_))
      refine qw_round (i + 1) (by repeat (first | exact trivial | refine ⟨rfl, ?_⟩)) ⟨hlt, hx815, seen, hmp, fun s hs => ?_⟩ (by omega)
      rcases hseen s hs with ⟨j, e, h1, h2⟩ | h
      · exact .inl ⟨j, e, by omega, h2⟩
      · exact .inl ⟨i, x, by omega, hxi, hxm, hx0, h⟩
  · (repeat (first | refine lw_pure hT rfl ?_ | refine lw_nil ?_ | refine cw_seq ?_ | refine cw_region ?_ | refine qw_then ?_ | refine cw_ret ?_ | refine cw_exit ?_ | refine qw_block_exit ?_ | refine qw_then_exit ?_))
    exact qw_ret rfl ⟨rfl, hx09⟩
end Go.Proofs.YtfbjpfgglgffgaaGreat
