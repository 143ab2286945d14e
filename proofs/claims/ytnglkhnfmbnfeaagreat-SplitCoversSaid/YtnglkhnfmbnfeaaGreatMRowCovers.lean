/- Whatever is split, joined and switched, the boxes that stand in live bills are the same ones, and none stands in two, of at most 41 calls and 12 acts. -/
import Derived.Test.YtnglkhnfmbnfeaaGreatM8
import Derived.Test.YtnglkhnfmbnfeaaGreatRows
import Derived.WalkKit
import Derived.ProofKit
import Derived.OpenShut
import Derived.ShutString
import Derived.ChangeOld
import Derived.Below
import Derived.SizedLaws
set_option linter.unusedVariables false
set_option linter.unusedSimpArgs false
set_option linter.unusedSectionVars false
set_option linter.unnecessarySimpa false
/- Ve -/
namespace Go.Proofs.YtnglkhnfmbnfeaaGreat
open Go Go.SK

/-- The boxes of the live bills ahead. -/
def LiveTo (r : RegD) (L : List ByteArray) (i : Nat) (x : ByteArray) : Prop := ∃ (j : Nat) (e : EntD), j < i ∧ L[j]? = some e.bill.number ∧ e ∈ r.l ∧ e.state = 0 ∧ x ∈ e.bill.boxes
theorem nodup_le {α : Type} : ∀ {a b : List α}, a.Nodup → (∀ x ∈ a, x ∈ b) → a.length ≤ b.length
  | [], b, _, _ => Nat.zero_le _
  | x :: a, b, hn, hs => by
    obtain ⟨h1, h2⟩ := List.nodup_cons.1 hn
    obtain ⟨s, t, rfl⟩ := List.append_of_mem (hs x List.mem_cons_self)
    have hp : (s ++ x :: t).Perm (x :: (s ++ t)) := List.perm_middle
    have := nodup_le (a := a) (b := s ++ t) h2 fun y hy => by
      rcases List.mem_cons.1 (hp.mem_iff.1 (hs y (List.mem_cons_of_mem _ hy))) with rfl | h
      · exact absurd hy h1
      · exact h
    have := hp.length_eq
    simp only [List.length_cons] at this ⊢
    omega
theorem nodup_lt_len {l : List Nat} {n : Nat} (h : l.Nodup) (hl : ∀ x ∈ l, x < n) : l.length ≤ n := by
  have := nodup_le (b := List.range n) h fun x hx => List.mem_range.2 (hl x hx)
  simpa using this
theorem live_fresh {k : Nat} {r : RegD} (hG : Good k r) {L : List ByteArray} (hL : L.Nodup) {x : EntD} (hx : x ∈ r.l) (h0 : x.state = 0) {i : Nat} (hi : L[i]? = some x.bill.number) {q : Nat} (hq : q < x.bill.boxes.length) (h : LiveTo r L i x.bill.boxes[q] ∨ x.bill.boxes[q] ∈ x.bill.boxes.take q) : False := by
  rcases h with ⟨j, e, hj, hje, he, he0, hes⟩ | h
  · have := good_one hG he hx he0 h0 hes (List.getElem_mem hq)
    subst this
    obtain ⟨hjl, e1⟩ := List.getElem?_eq_some_iff.1 hje
    obtain ⟨hil, e2⟩ := List.getElem?_eq_some_iff.1 hi
    have := (List.pairwise_iff_getElem.1 hL) j i hjl hil hj
    exact this (e1.trans e2.symm)
  · have hn := once_nd (may_len (hG.ent x hx).may).2.2.1
    obtain ⟨j, hj, e⟩ := List.getElem_of_mem h
    have hj' : j < q := by rw [List.length_take] at hj; omega
    rw [List.getElem_take] at e
    exact (List.pairwise_iff_getElem.1 hn) j q (by omega) hq hj' e
def oneM (s : List ByteArray) : List (ByteArray × Value) := s.map fun y => (y, Value.int .i64 1)
theorem one_in {s : List ByteArray} {x : ByteArray} (hx : x ∈ s) : mget (oneM s) x = some (.int .i64 1) := by
  unfold oneM
  induction s with
  | nil => simp at hx
  | cons a s ih =>
    rw [List.map_cons, mget_cons]
    by_cases h : x = a
    · rw [if_pos h]
    · rw [if_neg h]
      rcases List.mem_cons.1 hx with h' | h'
      · exact absurd h' h
      · exact ih h'
theorem one_not {s : List ByteArray} {x : ByteArray} (hx : x ∉ s) : mget (oneM s) x = none := by
  unfold oneM
  induction s with
  | nil => rfl
  | cons a s ih =>
    rw [List.map_cons, mget_cons, if_neg (fun h => hx (by simp [h]))]
    exact ih fun h => hx (List.mem_cons_of_mem _ h)
set_option maxHeartbeats 8000000 in
theorem l24_live {w : World} {p m k : Nat} {r : RegD} {gs : List GhostE} (hR : Rep w p r m gs) (hG : Good k r) (hk : k ≤ 1000000) (hl : r.l.length ≤ 256) :
    Ret Tryz.prog 28 [.pointer (some ⟨p, 0, none⟩)] w fun v w' => (∃ mb s, v = .map (some mb) ∧ w.heap.size ≤ mb ∧ Mp w' mb (oneM s) ∧ s.Nodup ∧ (∀ x, x ∈ s ↔ r.liveX x) ∧ s.length ≤ 20000) ∧ Ex w w' := by
  have hnsz : ∀ e ∈ r.l, e.bill.number.size ≤ maxLen := fun e he => (hG.ent e he).ok.number
  refine ret_of Tryz.func28 Tryz.ntmps28 rfl rfl rfl ?_
  (repeat (first | refine lw_pure hT rfl ?_ | refine lw_nil ?_ | refine cw_seq ?_ | refine cw_region ?_ | refine qw_then ?_))
  refine lw_makeMap ?_
  intro mb w1 hbm hm1 hx1 hs1
  (repeat (first | refine lw_pure hT rfl ?_ | refine lw_nil ?_ | refine cw_seq ?_ | refine cw_region ?_ | refine qw_then ?_))
  refine lw_call hT rfl rfl (reg_Bills (hR.ex hx1) hnsz hl) ?_
  rintro _ w2 ⟨⟨L, hL1, hL2, hLo⟩, hx2⟩
  obtain ⟨aL, cL, rfl⟩ := own_slice0 hLo
  have hLn : L.Nodup := hL2.nodup_iff.2 hG.nd.nums
  have hLl : L.length ≤ 256 := by rw [hL2.length_eq]; unfold RegD.nums; rw [List.length_map]; exact hl
  have hx02 := hx1.trans hx2
  have hLsl : SlS (fun b => w1.heap.size ≤ b) w2 (.slice aL L.length cL) L := sls_own hLo fun b hb => (own_base hLo hb).1
  obtain ⟨aL', cL', hve, _, hLr⟩ := hLsl.is
  simp only [Value.slice.injEq, List.length_map] at hve
  obtain ⟨rfl, _, rfl⟩ := hve
  have hm2 : Mp w2 mb (oneM []) := hm1.ex hx2
  (repeat (first | refine lw_pure hT rfl ?_ | refine lw_nil ?_ | refine qw_then ?_ | refine cw_block ?_))
  refine cw_loop (fun i : Nat => [(0, .pointer (some ⟨p, 0, none⟩)), (3, .map (some mb)), (12, .slice aL L.length cL), (13, .int .i64 (L.length : Nat)), (14, .int .i64 (i : Nat))])
    (fun i w' => i ≤ L.length ∧ Ext (· = mb) w2 w' ∧ ∃ s, Mp w' mb (oneM s) ∧ s.Nodup ∧ (∀ x, x ∈ s ↔ LiveTo r L i x) ∧ s.length ≤ 64 * i) (fun i => L.length - i) 0 (by repeat (first | exact trivial | refine ⟨rfl, ?_⟩)) ⟨Nat.zero_le _, Ext.refl _ _, [], hm2, List.nodup_nil, fun x => ⟨fun h => by simp at h, fun ⟨j, _, hj, _⟩ => by omega⟩, by simp⟩ ?_
  rintro i w3 ⟨hi, hx3, s, hm3, hsn, hmem, hslen⟩
  have hmb : mb ∉ foot p m gs := fun h => by have := hR.foot_lt h; omega
  have hR3 : Rep w3 p r m gs := (hR.ex hx02).frame hx3 (fun b hb e => hmb (e ▸ hb))
  (repeat (first | refine lw_pure hT rfl ?_ | refine lw_nil ?_ | refine cw_seq ?_ | refine cw_region ?_ | refine qw_then ?_))
  refine cw_cond rfl (fun e => ?_) (fun e => ?_)
  · have hlt : i < L.length := by have := of_decide_eq_true e; omega
    have hne : L.map (fun s => [Value.string s]) ≠ [] := by intro e; simp at e; rw [e] at hlt; simp at hlt
    obtain ⟨bL, oL, rfl, hbL, hLrd⟩ := hLr hne
    have hli := ((hLrd i [.string L[i]] (by rw [List.getElem?_map, List.getElem?_eq_getElem hlt]; rfl)).2).ext hx3 (show ¬ bL = mb by omega)
    have hLi : L[i]? = some L[i] := List.getElem?_eq_getElem hlt
    have hin : L[i] ∈ r.nums := hL2.mem_iff.1 (List.getElem_mem hlt)
    generalize L[i] = nb at hli hLi hin
    obtain ⟨x, hxm, hxn⟩ := List.mem_map.1 hin
    subst hxn
    have hat : r.at? x.bill.number = some x := at_self hG.nd hxm
    have hx64 := (may_len (hG.ent x hxm).may).1
    have step : ∀ y, LiveTo r L (i + 1) y ↔ LiveTo r L i y ∨ (x.state = 0 ∧ y ∈ x.bill.boxes) := by
      intro y
      constructor
      · rintro ⟨j, ee, hj, hje, he, he0, hes⟩
        by_cases hji : j = i
        · rw [hji, hLi] at hje
          have hex : ee = x := by
            have h1 := at_self hG.nd he
            rw [← Option.some.inj hje, hat] at h1
            exact (Option.some.inj h1).symm
          rw [hex] at he0 hes
          exact .inr ⟨he0, hes⟩
        · exact .inl ⟨j, ee, by omega, hje, he, he0, hes⟩
      · rintro (⟨j, e, hj, h⟩ | ⟨h0, hy⟩)
        · exact ⟨j, e, by omega, h⟩
        · exact ⟨i, x, by omega, hLi, hxm, h0, hy⟩
    (repeat (first | refine cw_seq ?_ | refine cw_region ?_ | refine qw_then ?_ | refine cw_skip ?_ | refine cw_block ?_))
    refine lw_index hT rfl rfl rfl i rfl hlt ?_
    skip
    refine lw_load hT rfl rfl (v := .string x.bill.number) (hli 0 _ rfl) ?_
    (repeat (first | refine lw_pure hT rfl ?_ | refine lw_nil ?_ | refine cw_seq ?_ | refine cw_region ?_ | refine qw_then ?_))
    refine lw_call hT rfl rfl (reg_Get hR3 (hG.small hk) x.bill.number) ?_
    rintro _ w4 ⟨hget, hx4⟩
    unfold GetR at hget
    rw [hat] at hget
    obtain ⟨ub, up, rfl, hub, hup⟩ := hget
    have o1 := own_one hub
    have o2 := own_one hup
    (repeat (refine lw_pure hT rfl ?_))
    refine lw_alloc z33 ?_
    intro b6 w5 hbb6 hb6 hx5 hs5
    skip
    refine lw_store_agg hT rfl rfl rfl rfl (encB_one (A := fun _ => True) (w := w) o1 o2) hb6 (show (9 : Nat) ≤ 9 by decide) ?_
    intro w6 hb66 hx6 hs6
    replace hb66 : Blk w6 b6 (encB x.bill ub up) 33 := hb66
    have hx46 : Ex w4 w6 := hx5.up_new hx6 (fun i h => by omega)
    have hx36 := hx4.trans hx46
    have hub6 := own_ex hub hx46
    have hx26 : Ext (· = mb) w2 w6 := hx3.up hx36
    have hm6 := hm3.ex hx36
    (repeat (first | refine lw_pure hT rfl ?_ | refine lw_nil ?_ | refine cw_seq ?_ | refine cw_region ?_ | refine qw_then ?_))
    refine lw_call hT rfl rfl (reg_State (hR3.ex hx36) x.bill.number) ?_
    rintro _ _ ⟨rfl, rfl⟩
    rw [state_of hat]
    (repeat (first | refine lw_pure hT rfl ?_ | refine lw_nil ?_ | refine qw_then ?_))
    refine cw_cond rfl (fun hs => ?_) (fun hs => ?_)
    · have hs : x.state ≠ 0 := of_decide_eq_true hs
      (repeat (first | (refine lw_add rfl rfl ?_ ?_ ?_; iterate 2 omega) | refine lw_pure hT rfl ?_ | refine lw_nil ?_ | refine cw_region ?_ | refine qw_then ?_ | refine cw_exit ?_ | refine qw_block_exit ?_ | refine qw_then_exit ?_))
      exact qw_round (i + 1) (by repeat (first | exact trivial | refine ⟨rfl, ?_⟩)) ⟨hlt, hx26, s, hm6, hsn, fun y => by rw [step, hmem]; exact ⟨.inl, fun h => h.elim id fun h => absurd h.1 hs⟩, by omega⟩ (by omega)
    have hs : x.state = 0 := by simpa using hs
    obtain ⟨au, cu, rfl⟩ := own_slice0 hub6
    have husl : SlS (fun b => w3.heap.size ≤ b) w6 (.slice au x.bill.boxes.length cu) x.bill.boxes := sls_own hub6 fun b hb => (own_base hub hb).1
    obtain ⟨au', cu', hve2, _, hur⟩ := husl.is
    simp only [Value.slice.injEq, List.length_map] at hve2
    obtain ⟨rfl, _, rfl⟩ := hve2
    (repeat (first | refine lw_pure hT rfl ?_ | refine cw_seq ?_ | refine cw_region ?_ | refine qw_then ?_ | refine cw_skip ?_))
    refine lw_load hT rfl rfl (v := .slice au x.bill.boxes.length cu) (hb66.cell 5) ?_
    (repeat (first | refine lw_pure hT rfl ?_ | refine lw_nil ?_ | refine qw_then ?_ | refine cw_block ?_))
    refine cw_loop (fun q : Nat => [(0, .pointer (some ⟨p, 0, none⟩)), (3, .map (some mb)), (12, .slice (some ⟨bL, oL, none⟩) L.length cL), (13, .int .i64 (L.length : Nat)), (14, .int .i64 (i : Nat)), (29, .slice au x.bill.boxes.length cu), (30, .int .i64 (x.bill.boxes.length : Nat)), (31, .int .i64 (q : Nat))])
      (fun q w' => q ≤ x.bill.boxes.length ∧ Ext (· = mb) w6 w' ∧ ∃ s, Mp w' mb (oneM s) ∧ s.Nodup ∧ (∀ y, y ∈ s ↔ LiveTo r L i y ∨ y ∈ x.bill.boxes.take q) ∧ s.length ≤ 64 * i + q) (fun q => x.bill.boxes.length - q) 0 (by repeat (first | exact trivial | refine ⟨rfl, ?_⟩)) ⟨Nat.zero_le _, Ext.refl _ _, s, hm6, hsn, fun y => by rw [hmem]; simp, by omega⟩ ?_
    rintro q w7 ⟨hq, hx7, s7, hm7, hsn7, hmem7, hslen7⟩
    (repeat (first | refine lw_pure hT rfl ?_ | refine lw_nil ?_ | refine cw_seq ?_ | refine cw_region ?_ | refine qw_then ?_))
    refine cw_cond rfl (fun e => ?_) (fun e => ?_)
    · have hql : q < x.bill.boxes.length := by have := of_decide_eq_true e; omega
      have hune : x.bill.boxes.map (fun s => [Value.string s]) ≠ [] := by intro e; simp at e; rw [e] at hql; simp at hql
      obtain ⟨bu, ou, rfl, hbu, hurd⟩ := hur hune
      have hmb3 := hm3.lt
      have hui := ((hurd q [.string x.bill.boxes[q]] (by rw [List.getElem?_map, List.getElem?_eq_getElem hql]; rfl)).2).ext hx7 (show ¬ bu = mb by omega)
      have hfr : x.bill.boxes[q] ∉ s7 := fun h => live_fresh hG hLn hxm hs hLi hql ((hmem7 _).1 h)
      have htk : x.bill.boxes.take (q + 1) = x.bill.boxes.take q ++ [x.bill.boxes[q]] := List.take_succ_eq_append_getElem hql
      generalize x.bill.boxes[q] = bx at hui hfr htk
      (repeat (first | refine cw_seq ?_ | refine cw_region ?_ | refine qw_then ?_ | refine cw_skip ?_ | refine cw_block ?_))
      refine lw_index hT rfl rfl rfl q rfl hql ?_
      skip
      refine lw_load hT rfl rfl (v := .string bx) (hui 0 _ rfl) ?_
      (repeat (first | refine lw_pure hT rfl ?_ | refine lw_nil ?_ | refine cw_region ?_ | refine qw_then ?_))
      refine lw_lookup mp62 rfl rfl hm7 ?_
      rw [show (mget (oneM s7) bx).getD (.int .i64 0) = .int .i64 0 from by rw [one_not hfr]; rfl]
      (repeat (refine lw_add rfl rfl ?_ ?_ ?_; iterate 2 omega))
      refine lw_mapUpdate mp62 rfl rfl rfl hm7 (one_not hfr) ?_
      intro w8 hm8 hx8 hs8
      replace hm8 : Mp w8 mb (oneM (s7 ++ [bx])) := by unfold oneM at hm8 ⊢; rw [List.map_append]; exact hm8
      (repeat (first | (refine lw_add rfl rfl ?_ ?_ ?_; iterate 2 omega) | refine lw_pure hT rfl ?_ | refine lw_nil ?_ | refine cw_region ?_ | refine qw_then ?_ | refine qw_block ?_))
      refine qw_round (q + 1) (by repeat (first | exact trivial | refine ⟨rfl, ?_⟩)) ⟨hql, hx7.trans hx8, s7 ++ [bx], hm8, ((List.perm_append_comm).nodup_iff).2 (List.nodup_cons.2 ⟨hfr, hsn7⟩), fun y => ?_, by rw [List.length_append, List.length_singleton]; omega⟩ (by omega)
      rw [List.mem_append, hmem7, htk, List.mem_append, or_assoc]
    · have hql : q = x.bill.boxes.length := by have := of_decide_eq_false e; omega
      subst hql
      rw [List.take_length] at hmem7
      (repeat (first | (refine lw_add rfl rfl ?_ ?_ ?_; iterate 2 omega) | refine lw_pure hT rfl ?_ | refine lw_nil ?_ | refine cw_region ?_ | refine qw_then ?_ | refine cw_exit ?_ | refine qw_block ?_ | refine qw_block_exit ?_ | refine qw_then_exit ?_))
      exact qw_round (i + 1) (by repeat (first | exact trivial | refine ⟨rfl, ?_⟩)) ⟨hlt, hx26.trans hx7, s7, hm7, hsn7, fun y => by rw [step, hmem7]; exact ⟨fun h => h.elim .inl fun h => .inr ⟨hs, h⟩, fun h => h.elim .inl fun h => .inr h.2⟩, by omega⟩ (by omega)
  · have hil : i = L.length := by have := of_decide_eq_false e; omega
    subst hil
    (repeat (first | refine lw_pure hT rfl ?_ | refine lw_nil ?_ | refine cw_seq ?_ | refine cw_region ?_ | refine qw_then ?_ | refine cw_ret ?_ | refine cw_exit ?_ | refine qw_block_exit ?_ | refine qw_then_exit ?_))
    refine qw_ret rfl ⟨⟨mb, s, rfl, by omega, hm3, hsn, fun x => ?_, by omega⟩, hx02.up_new hx3 (fun i h => by omega)⟩
    rw [hmem]
    constructor
    · rintro ⟨j, e, _, _, he, h0, hx⟩
      exact ⟨e, he, h0, hx⟩
    · rintro ⟨e, he, h0, hx⟩
      have hin : e.bill.number ∈ L := hL2.mem_iff.2 (List.mem_map.2 ⟨e, he, rfl⟩)
      obtain ⟨j, hj⟩ := List.getElem?_of_mem hin
      exact ⟨j, e, (List.getElem?_eq_some_iff.1 hj).1, hj, he, h0, hx⟩
set_option maxHeartbeats 16000000 in
theorem l24_Covers {A1 A2 : Nat → Prop} {w : World} {v1 v2 : Value} {l : List ActD} {acts : List SActD} (h1 : ActsAt A1 w v1 l) (h2 : SActsAt A2 w v2 acts) :
    Ret Tryz.prog 6 [v1, v2] w fun v w' => v = .bool true ∧ Ex w w' := by
  obtain ⟨p1, cap1, rfl, _, _⟩ := h1.is
  have h2' := h2.lt
  obtain ⟨p2, cap2, rfl, _, _⟩ := h2.is
  obtain ⟨_, _, hve2, _, hrow2⟩ := h2'.is
  simp only [Value.slice.injEq] at hve2
  obtain ⟨rfl, _, rfl⟩ := hve2
  refine ret_of Tryz.func6 Tryz.ntmps6 rfl rfl rfl ?_
  (repeat (first | refine lw_pure hT rfl ?_ | refine lw_nil ?_ | refine cw_seq ?_ | refine cw_region ?_ | refine qw_then ?_))
  refine lw_call hT rfl rfl (l24_awake w) ?_
  rintro _ w1 ⟨rfl, hx1⟩
  have hx01 : Ex w w1 := hx1
  (repeat (first | refine lw_pure hT rfl ?_ | (refine lw_gon_f rfl ?_ ?_; focus (first | with_reducible rfl | with_reducible exact Bool.not_false | with_reducible exact Bool.not_true))))
  refine lw_call hT rfl rfl (r23_Few (h1.ex hx01)) ?_
  rintro _ w2 ⟨⟨b1, rfl, hr1⟩, hx2⟩
  have hx02 := hx01.trans hx2
  (repeat (first | refine lw_pure hT rfl ?_ | (refine lw_gon_f rfl ?_ ?_; focus (first | with_reducible rfl | with_reducible exact Bool.not_false | with_reducible exact Bool.not_true))))
  refine lw_guard rfl (fun e => ?_) (fun e => ?_)
  · (repeat (first | refine lw_pure hT rfl ?_ | refine lw_nil ?_ | refine cw_seq ?_ | refine cw_region ?_ | refine qw_then ?_ | (refine lw_goff_t rfl ?_ ?_; focus (first | with_reducible rfl | with_reducible exact Bool.not_false | with_reducible exact Bool.not_true)) | (refine cw_cond_t rfl ?_ ?_; focus (first | with_reducible rfl | with_reducible exact Bool.not_false | with_reducible exact Bool.not_true))))
    refine lw_call hT rfl rfl (l24_awake w2) ?_
    rintro _ wz ⟨rfl, hxz⟩
    (repeat (first | refine lw_pure hT rfl ?_ | refine lw_nil ?_ | refine qw_then ?_ | refine cw_ret ?_ | refine qw_then_ret ?_))
    exact qw_ret rfl ⟨rfl, hx02.trans hxz⟩
  replace hr1 := hr1 (by simpa using e)
  (repeat (first | refine lw_pure hT rfl ?_ | (refine lw_gon_f rfl ?_ ?_; focus (first | with_reducible rfl | with_reducible exact Bool.not_false | with_reducible exact Bool.not_true))))
  refine lw_call hT rfl rfl (l24_few (h2.ex hx02)) ?_
  rintro _ w3 ⟨⟨b2, rfl, hr2⟩, hx3⟩
  have hx03 := hx02.trans hx3
  (repeat (first | refine lw_pure hT rfl ?_ | refine lw_nil ?_ | refine qw_then ?_ | (refine lw_gon_f rfl ?_ ?_; focus (first | with_reducible rfl | with_reducible exact Bool.not_false | with_reducible exact Bool.not_true))))
  refine cw_cond rfl (fun e => ?_) (fun e => ?_)
  · (repeat (first | refine cw_seq ?_ | refine cw_region ?_))
    refine lw_call hT rfl rfl (l24_awake w3) ?_
    rintro _ wz ⟨rfl, hxz⟩
    (repeat (first | refine lw_pure hT rfl ?_ | refine lw_nil ?_ | refine qw_then ?_ | refine cw_ret ?_ | refine qw_then_ret ?_))
    exact qw_ret rfl ⟨rfl, hx03.trans hxz⟩
  replace hr2 := hr2 (by simpa using e)
  (repeat (first | refine lw_pure hT rfl ?_ | refine cw_seq ?_ | refine cw_region ?_ | refine qw_then ?_ | refine cw_skip ?_))
  refine lw_call hT rfl rfl (l24_begin (h1.ex hx03) hr1) ?_
  rintro _ w4 ⟨⟨p, m, gs, vL, fgs, A', rfl, hP⟩, hx4⟩
  have hx04 := hx03.trans hx4
  have hgood := good_kept h1.ok
  have hlen := hr1.1
  have ec : (runA regC (keptA l)).carrier = ⟨#[99]⟩ := runA_carrier _ _
  obtain ⟨r0, hr0⟩ : ∃ r0, r0 = runA regC (keptA l) := ⟨_, rfl⟩
  rw [← hr0] at hgood hP ec
  have hl0 := hgood.len
  have hn04 : ∀ b ∈ foot p m gs, w.heap.size ≤ b := fun b hb => by have := hP.new b hb; have := (hx03).size; omega
  (repeat (refine lw_pure hT rfl ?_))
  refine lw_alloc z28 ?_
  intro b6 w5 hbb8 hb8 hx5 hs5
  (repeat (refine lw_pure hT rfl ?_))
  refine lw_store_agg hT rfl rfl rfl rfl (by intro v hv; simp [encR] at hv; rcases hv with rfl | rfl <;> first | rfl | exact Sl.one hP.frep.sl) hb8 (show (2 : Nat) ≤ 2 by decide) ?_
  intro w6 hb86 hx6 hs6
  replace hb86 : Blk w6 b6 (encR ⟨#[99]⟩ vL) 28 := hb86
  have hx46 : Ex w4 w6 := hx5.up_new hx6 (fun i h => by omega)
  have hx06 := hx04.trans hx46
  have hR6 := hP.rep.ex hx46
  have hF6 := hP.frep.lt.ex hx46
  have hfl4 : ∀ b ∈ foot p m gs, b < w4.heap.size := fun b hb => hP.rep.foot_lt hb
  have l46 := hx46.size
  have hlens := hr2.1
  (repeat (first | refine lw_pure hT rfl ?_ | refine lw_nil ?_ | refine cw_seq ?_ | refine cw_region ?_ | refine qw_then ?_))
  refine lw_call hT rfl rfl (l24_live hR6 hgood (by omega) (by omega)) ?_
  rintro _ w7 ⟨⟨ma, sa_, rfl, hma, hmA, hsaN, hsaM, hsaL⟩, hx7⟩
  have hx07 := hx06.trans hx7
  have hR7 := hR6.ex hx7
  have l7 := hx7.size
  have hmal := hmA.lt
  have hma0 : ma ∉ foot p m gs := fun h => by have := hfl4 _ h; omega
  (repeat (first | refine lw_pure hT rfl ?_ | refine lw_nil ?_ | refine cw_seq ?_ | refine cw_region ?_ | refine qw_then ?_ | refine cw_block ?_))
  refine cw_loop (fun i : Nat => [(5, .pointer (some ⟨p, 0, none⟩)), (7, .map (some ma)), (33, .slice p2 acts.length cap2), (34, .int .i64 (acts.length : Nat)), (35, .int .i64 (i : Nat))])
    (fun i w' => i ≤ acts.length ∧ Ex w w' ∧ Mp w' ma (oneM sa_) ∧ w7.heap.size ≤ w'.heap.size ∧ ∃ gs', Rep w' p (runS r0 (acts.take i)) m gs' ∧ (∀ b ∈ foot p m gs', b ∈ foot p m gs ∨ w7.heap.size ≤ b)) (fun i => acts.length - i) 0 (by repeat (first | exact trivial | refine ⟨rfl, ?_⟩)) ⟨Nat.zero_le _, hx07, hmA, Nat.le_refl _, gs, hR7, fun b hb => .inl hb⟩ ?_
  rintro i w8 ⟨hi, hx08, hmA8, l78, gs8, hR8, hf8⟩
  have hn8 : ∀ b ∈ foot p m gs8, w.heap.size ≤ b := fun b hb => by
    rcases hf8 b hb with h | h
    · exact hn04 b h
    · have := hx07.size; omega
  have hG8 : Good (l.length + 65 * i) (runS r0 (acts.take i)) := by
    have := good_runS (l := acts.take i) hgood (fun a ha => h2.ok a (List.mem_of_mem_take ha))
    have e : (acts.take i).length = i := by rw [List.length_take]; omega
    rw [e] at this
    exact this
  have hma8 : ma ∉ foot p m gs8 := fun h => by
    rcases hf8 _ h with h | h
    · exact hma0 h
    · omega
  (repeat (first | refine lw_pure hT rfl ?_ | refine lw_nil ?_ | refine cw_seq ?_ | refine cw_region ?_ | refine qw_then ?_))
  refine cw_cond rfl (fun e => ?_) (fun e => ?_)
  · have hlt : i < acts.length := by have := of_decide_eq_true e; omega
    obtain ⟨b, o, vp, vn, rfl, hbA, hrd, hsa⟩ := hrow2 i hlt
    have hfa := hr2.2 _ (List.getElem_mem hlt)
    have hrt := runS_take (r := r0) hlt
    generalize acts[i] = a at hrd hsa hfa hrt
    (repeat (first | refine cw_seq ?_ | refine cw_region ?_ | refine qw_then ?_ | refine cw_skip ?_ | refine cw_block ?_))
    refine lw_index hT rfl rfl rfl i rfl hlt ?_
    skip
    refine lw_load_agg hT rfl rfl rfl (vs := encS a vp vn) (hrd.ex hx08) ?_
    skip
    refine lw_alloc z45 ?_
    intro b9 w9 hbb9 hb9 hx9 hs9
    skip
    refine lw_store_agg hT rfl rfl rfl rfl (encS_one hsa) hb9 (show (9 : Nat) ≤ 9 by decide) ?_
    intro w10 hb10 hx10 hs10
    replace hb10 : Blk w10 b9 (encS a vp vn) 45 := hb10
    have hx810 : Ex w8 w10 := hx9.up_new hx10 (fun i h => by omega)
    have hx010 := hx08.trans hx810
    (repeat (first | refine lw_pure hT rfl ?_ | refine lw_nil ?_ | refine cw_region ?_ | refine qw_then ?_))
    refine lw_load_agg hT rfl rfl rfl (vs := encS a vp vn) (hb10.rd 0 9) ?_
    skip
    refine lw_call hT rfl rfl (l24_do (hR8.ex hx810) hG8 (by omega) (hsa.ex hx010) hfa) ?_
    rintro _ w11 ⟨rfl, hm11⟩
    obtain ⟨gs11, hR11, hf11⟩ := hm11.is
    rw [← hrt] at hR11
    have l811 := hx810.size
    have l11 := hm11.ext.size
    (repeat (first | (refine lw_add rfl rfl ?_ ?_ ?_; iterate 2 omega) | refine lw_pure hT rfl ?_ | refine lw_nil ?_ | refine cw_region ?_ | refine qw_then ?_ | refine qw_block ?_))
    refine qw_round (i + 1) (by repeat (first | exact trivial | refine ⟨rfl, ?_⟩)) ⟨hlt, hm11.new hx010 hn8, (hmA8.ex hx810).ext hm11.ext hma8, by omega, gs11, hR11, fun b hb => ?_⟩ (by omega)
    rcases hf11 b hb with h | h
    · exact hf8 b h
    · exact .inr (by omega)
  · have hil : i = acts.length := by have := of_decide_eq_false e; omega
    subst hil
    rw [List.take_length] at hR8 hG8
    obtain ⟨r1, hr1'⟩ : ∃ r1, r1 = runS r0 acts := ⟨_, rfl⟩
    have hl1 : r1.l.length ≤ 256 := by rw [hr1']; exact len_runS (by omega)
    have hlive : ∀ x, r1.liveX x ↔ r0.liveX x := by rw [hr1']; exact live_runS hgood h2.ok
    rw [← hr1'] at hR8 hG8
    (repeat (first | refine lw_pure hT rfl ?_ | refine cw_seq ?_ | refine cw_region ?_ | refine qw_then ?_ | refine cw_exit ?_ | refine qw_block_exit ?_ | refine qw_then_exit ?_))
    refine lw_call hT rfl rfl (l24_live hR8 hG8 (by omega) hl1) ?_
    rintro _ w9 ⟨⟨mz, sz, rfl, hmz, hmZ, hszN, hszM, hszL⟩, hx9⟩
    have hx09 := hx08.trans hx9
    have hmA9 := hmA8.ex hx9
    have hsame : ∀ x, x ∈ sa_ ↔ x ∈ sz := fun x => by rw [hsaM, hszM, hlive]
    have hlen2 : sa_.length = sz.length := (perm_of_mem hsaN hszN hsame).length_eq
    have hol : ∀ s, (oneM s).length = s.length := fun s => List.length_map _
    (repeat (first | refine lw_pure hT rfl ?_ | refine lw_nil ?_ | refine cw_seq ?_ | refine cw_region ?_ | refine qw_then ?_))
    refine lw_maplen mp62 rfl hmA9 ?_
    (repeat (refine lw_pure hT rfl ?_))
    refine lw_maplen mp62 rfl hmZ ?_
    rw [hol, hol, hlen2]
    (repeat (first | refine lw_pure hT rfl ?_ | refine lw_nil ?_ | refine qw_then ?_))
    refine cw_cond rfl (fun h => absurd h (by simp)) (fun _ => ?_)
    (repeat (first | refine lw_pure hT rfl ?_ | refine cw_seq ?_ | refine cw_region ?_ | refine qw_then ?_ | refine cw_skip ?_))
    refine lw_range mp62 rfl hmZ ?_
    intro ib w10 hib hI10 hx10 hs10
    have hx010 := hx09.trans hx10
    have hR10 := (hR8.ex hx9).ex hx10
    have hmzl := hmZ.lt
    have hmal9 := hmA9.lt
    (repeat (first | refine lw_nil ?_ | refine qw_then ?_ | refine cw_block ?_))
    refine cw_loop (fun seen : List Nat => [(5, .pointer (some ⟨p, 0, none⟩)), (7, .map (some ma)), (10, .map (some mz)), (51, .pointer (some ⟨ib, 0, none⟩))])
      (fun seen w' => Ext (· = ib) w10 w' ∧ Itr w' ib mz (oneM sz).length seen ∧ (∀ j ∈ seen, j < (oneM sz).length) ∧ seen.Nodup) (fun seen => (oneM sz).length - seen.length) [] (by repeat (first | exact trivial | refine ⟨rfl, ?_⟩)) ⟨Ext.refl _ _, hI10, fun j hj => by simp at hj, List.nodup_nil⟩ ?_
    rintro seen w11 ⟨hx11, hI11, hsl, hsnd⟩
    have hib8 : ∀ b ∈ foot p m gs8, ¬ b = ib := fun b hb e => by have := (hR8.ex hx9).foot_lt hb; omega
    have hR11 := hR10.frame hx11 hib8
    have hmZ11 := (hmZ.ex hx10).ext hx11 (by omega)
    have hmA11 := (hmA9.ex hx10).ext hx11 (by omega)
    have hx011 : Ex w w11 := hx010.up_new hx11 (fun i h => by have := hx09.size; omega)
    (repeat (first | refine cw_seq ?_ | refine cw_region ?_))
    refine lw_next rfl hmZ11 hI11 hsl (fun hall => ?_) ?_
    · (repeat (first | refine lw_pure hT rfl ?_ | refine lw_nil ?_ | refine cw_seq ?_ | refine cw_region ?_ | refine qw_then ?_ | refine cw_ret ?_ | refine cw_exit ?_ | refine qw_block_exit ?_ | refine qw_then_exit ?_ | (refine cw_cond_f rfl ?_ ?_; focus (first | with_reducible rfl | with_reducible exact Bool.not_false | with_reducible exact Bool.not_true))))
      exact qw_ret rfl ⟨rfl, hx011⟩
    · intro j x w12 hj hns hI12 hx12 hs12 hent
      have hjl := (List.getElem?_eq_some_iff.1 hj).1
      obtain ⟨box, hbox, hxe⟩ : ∃ box, box ∈ sz ∧ x = (box, .int .i64 1) := by
        have := List.mem_of_getElem? hj
        unfold oneM at this
        obtain ⟨y, hy, e⟩ := List.mem_map.1 this
        exact ⟨y, hy, e.symm⟩
      subst hxe
      have hcard : seen.length + 1 ≤ (oneM sz).length := by
        have := nodup_lt_len (l := seen ++ [j]) (n := (oneM sz).length) (((List.perm_append_comm).nodup_iff).2 (List.nodup_cons.2 ⟨hns, hsnd⟩)) (fun q hq => by
          rcases List.mem_append.1 hq with h | h
          · exact hsl q h
          · rw [List.mem_singleton.1 h]; exact hjl)
        simpa using this
      have hx1012 : Ext (· = ib) w10 w12 := hx11.trans hx12
      have hmA12 := hmA11.ext hx12 (by omega)
      (repeat (first | refine lw_pure hT rfl ?_ | refine lw_nil ?_ | refine cw_seq ?_ | refine cw_region ?_ | refine qw_then ?_ | refine cw_skip ?_ | refine cw_block ?_ | (refine cw_cond_t rfl ?_ ?_; focus (first | with_reducible rfl | with_reducible exact Bool.not_false | with_reducible exact Bool.not_true))))
      refine lw_entry rfl hent ?_
      (repeat (first | refine lw_pure hT rfl ?_ | refine lw_nil ?_ | refine cw_seq ?_ | refine cw_region ?_ | refine qw_then ?_))
      refine lw_guard rfl (fun h => absurd h (by simp)) (fun _ => ?_)
      (repeat (first | refine lw_pure hT rfl ?_ | (refine lw_gon_f rfl ?_ ?_; focus (first | with_reducible rfl | with_reducible exact Bool.not_false | with_reducible exact Bool.not_true))))
      refine lw_lookup mp62 rfl rfl hmA12 ?_
      rw [show (mget (oneM sa_) box).getD (.int .i64 0) = .int .i64 1 from by rw [one_in ((hsame box).2 hbox)]; rfl]
      (repeat (first | refine lw_pure hT rfl ?_ | (refine lw_gon_f rfl ?_ ?_; focus (first | with_reducible rfl | with_reducible exact Bool.not_false | with_reducible exact Bool.not_true))))
      refine lw_guard rfl (fun h => absurd h (by simp)) (fun _ => ?_)
      (repeat (first | refine lw_pure hT rfl ?_ | (refine lw_gon_f rfl ?_ ?_; focus (first | with_reducible rfl | with_reducible exact Bool.not_false | with_reducible exact Bool.not_true))))
      refine lw_buildSlice sl31 rfl rfl rfl ?_
      intro bc w13 hbbc hbc hx13 hs13
      (repeat (refine lw_gon_f rfl ?_ ?_; focus (first | with_reducible rfl | with_reducible exact Bool.not_false | with_reducible exact Bool.not_true)))
      refine lw_call hT rfl rfl (spl_Covers ((hR11.frame hx12 hib8).ex hx13) (sls_of_blk (l := [box]) (cap := 1) hbc (show (1 : Nat) ≤ maxLen by decide))) ?_
      rintro _ w14 ⟨rfl, hx14⟩
      have hbx : r1.boxed box = true := boxed_iff.2 ((hszM box).1 hbox)
      rw [show [box].all r1.boxed = true from by simp [hbx]]
      have hx1214 := hx13.trans hx14
      (repeat (first | refine lw_pure hT rfl ?_ | refine lw_nil ?_ | refine qw_then ?_ | refine cw_skip ?_ | (refine lw_gon_f rfl ?_ ?_; focus (first | with_reducible rfl | with_reducible exact Bool.not_false | with_reducible exact Bool.not_true)) | refine qw_block ?_ | (refine cw_cond_f rfl ?_ ?_; focus (first | with_reducible rfl | with_reducible exact Bool.not_false | with_reducible exact Bool.not_true))))
      refine qw_round (x := seen) (seen ++ [j]) (by repeat (first | exact trivial | refine ⟨rfl, ?_⟩)) ⟨hx1012.up hx1214, hI12.ex hx1214, fun q hq => ?_, ((List.perm_append_comm).nodup_iff).2 (List.nodup_cons.2 ⟨hns, hsnd⟩)⟩ (by simp; omega)
      rcases List.mem_append.1 hq with h | h
      · exact hsl q h
      · rw [List.mem_singleton.1 h]; exact hjl
end Go.Proofs.YtnglkhnfmbnfeaaGreat

/- RowCovers -/
namespace Go.Proofs.YtnglkhnfmbnfeaaGreat.splitCovers
open Go Go.SK Go.ChangeShapes Go.WideShapes Go.ChangeAt Go.RowKit
open Go.ChangeMaps (open_string shut_string)
section
attribute [local semireducible] Go.SK.Ret
theorem of_ret {P : Program} {f : FuncId} {args : List Value} {w : World} {R : Value → World → Prop} (h : Ret P f args w R) : Calls P f ⟨args⟩ w fun e w' => ∃ v, e = .returned v ∧ R v w' := h
end
theorem own : ownKnob Tryz.prog.godebug = none := by kernel_rfl
theorem laidOut : laidOutB Tryz.prog = true := by kernel_rfl
set_option maxRecDepth 100000 in
theorem lifted (os : Os) (started : os.Started) (H : Type) (enc : TypeId × Value → H) :
    ReturnsInHanded {} Tryz.checked os 6 .any (Rows.splitCoversSpec.pre6 enc Tryz.prog Tryz.f6 Rows.splitCoversRow.domain false) (Rows.splitCoversSpec.post enc Tryz.prog Tryz.f6 false true false false) := by
  refine returnsInHanded_of_change_sized (C := Tryz.checked) own started (by kernel_rfl) Tryz.func6
    (ChangeSpec.witness6 (enc := enc) (C := Tryz.checked) false ⟨#[], #[.slice none 0 0, .slice none 0 0], []⟩ 8 (by kernel_rfl) (by kernel_rfl) (by kernel_rfl) (by kernel_rfl)) ?_
  intro W base args ds gs before hval0 hW hcnd hsz0 _
  have hval : ∀ (j : Nat) t v, Tryz.f6.params[j]? = some t → args[j]? = some v → Value.okWide Tryz.prog W .any base t v := hval0
  have hW' := hW
  obtain ⟨p, q, hA0, hV, rfl, hfz, hnd⟩ := hW
  have hA : DataW.TrodAll enc Tryz.prog W 0 (fun _ => true) true Tryz.f6.params.toList args.toList ds p := hA0
  rw [Tryz.params6] at hA hval
  obtain ⟨v0, vs0, d0, ds0, p0, q0, hargs, rfl, rfl, h0, r0⟩ := trodAll_cons hA
  obtain ⟨v1, vs1, d1, ds1, p1, q1, rfl, rfl, rfl, h1, r1⟩ := trodAll_cons r0
  obtain ⟨rfl, rfl, rfl⟩ := trodAll_nil r1
  obtain rfl : args = #[v0, v1] := by cases args; simp_all
  obtain ⟨rfl, rfl⟩ := trodVars_none hV
  obtain ⟨a0, len0, cap0, rfl⟩ := okWide_slice Tryz.underlying22 (hval 0 22 v0 rfl rfl)
  have k0 := h0
  have lt0 : ∀ x ∈ p0, x.block < W.heap.size := by obtain ⟨m, hm⟩ := k0; exact DataW.trod_lt m _ _ _ hm
  obtain ⟨l0, w0⟩ : ∃ l, ActsAt (fun _ => True) W (.slice a0 len0 cap0) l := by
    obtain ⟨fuel, hf⟩ := h0
    obtain ⟨v, l, hcs, hl⟩ := open_acts (fun _ => rfl) hf
    simp [Value.cells] at hcs
    subst hcs
    exact ⟨l, hl⟩
  obtain ⟨a1, len1, cap1, rfl⟩ := okWide_slice Tryz.underlying47 (hval 1 47 v1 rfl rfl)
  have k1 := h1
  have lt1 : ∀ x ∈ p1, x.block < W.heap.size := by obtain ⟨m, hm⟩ := k1; exact DataW.trod_lt m _ _ _ hm
  obtain ⟨l1, w1⟩ : ∃ l, SActsAt (fun _ => True) W (.slice a1 len1 cap1) l := by
    obtain ⟨fuel, hf⟩ := h1
    obtain ⟨v, l, hcs, hl⟩ := open_sacts (fun _ => rfl) hf
    simp [Value.cells] at hcs
    subst hcs
    exact ⟨l, hl⟩
  clear hA0 hval0 hsz0
  refine (of_ret (l24_Covers w0 w1)).mono fun e W' ⟨v, he, hv, hx⟩ => ?_
  subst he hv
  have bel : Below W.heap.size W W' := Ext.below hx (Nat.le_refl _) (fun _ _ f => f)
  exact ⟨_, rfl, _, _, _, [], _, [], hW', trodAll_mk1 (shut_bool Tryz.underlying4 _), (trodAll_cons_mk (Below.trod laidOut (by kernel_rfl) (of_decide_eq_true (by kernel_rfl)) k0 bel lt0) (trodAll_cons_mk (Below.trod laidOut (by kernel_rfl) (of_decide_eq_true (by kernel_rfl)) k1 bel lt1) trodAll_mk0)), rfl, bel.frame _, fun h => by cases h⟩
theorem over : Rows.splitCoversRow.holds Tryz.pinned (OpenSpec.ofChange Rows.splitCoversSpec) :=
  OpenClaim.holds_of_wide 6 Tryz.f6 rfl rfl rfl rfl rfl rfl rfl ⟨rfl, rfl, rfl, rfl, rfl⟩ rfl rfl rfl rfl rfl (by kernel_rfl) Tryz.func6 (by kernel_rfl)
    (of_decide_eq_true (by kernel_rfl)) (by unfold Func.isWrapper; first | (rw [if_pos (by decide +kernel)]; kernel_rfl) | (rw [if_neg (by decide +kernel)]; exact ⟨rfl, rfl⟩))
    (fun os started H enc _ => lifted os started H enc)
end Go.Proofs.YtnglkhnfmbnfeaaGreat.splitCovers
namespace Go.Proofs.YtnglkhnfmbnfeaaGreat
theorem splitCovers_holds : Rows.SplitCoversSaid := splitCovers.over
#print axioms splitCovers_holds
end Go.Proofs.YtnglkhnfmbnfeaaGreat
