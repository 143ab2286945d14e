/- Contract of supercargolaw23.play: acts of both registers. -/
import Derived.Test.YtfbjpfgglgffgaaGreatGc
import Derived.Test.YtfbjpfgglgffgaaGreatRd
set_option linter.unusedVariables false
set_option linter.unusedSimpArgs false
set_option linter.unusedSectionVars false
set_option linter.unnecessarySimpa false
namespace Go.Proofs.YtfbjpfgglgffgaaGreat
open Go Go.SK

theorem rd_lt {w : World} {b o : Nat} {v : Value} {vs : List Value} (h : Rd w b o (v :: vs)) : b < w.heap.size := World.block_lt_of_cell? w ⟨b, o + 0, none⟩ (h 0 v rfl)
theorem ActAt.lt {A : Nat → Prop} {w : World} {a : ActD} {vb vp : Value} (h : ActAt A w a vb vp) : ActAt (fun b => A b ∧ b < w.heap.size) w a vb vp := ⟨h.boxes.lt (by decide), h.parents.lt (by decide), h.cap, h.ok⟩
theorem ActsAt.lt {A : Nat → Prop} {w : World} {v : Value} {l : List ActD} (h : ActsAt A w v l) : ActsAt (fun b => A b ∧ b < w.heap.size) w v l := by
  obtain ⟨p, cap, h1, h2, h3⟩ := h.is
  refine ⟨p, cap, h1, h2, fun i hi => ?_⟩
  obtain ⟨b, o, vb, vp, h4, h5, h6, h7⟩ := h3 i hi
  exact ⟨b, o, vb, vp, h4, ⟨h5, rd_lt h6⟩, h6, h7.lt⟩
theorem ActsAt.ok {A : Nat → Prop} {w : World} {v : Value} {l : List ActD} (h : ActsAt A w v l) : ∀ a ∈ l, a.Ok := by
  obtain ⟨p, cap, _, _, h3⟩ := h.is
  intro a ha
  obtain ⟨i, hi, rfl⟩ := List.getElem_of_mem ha
  obtain ⟨_, _, _, _, _, _, _, h7⟩ := h3 i hi
  exact h7.ok
theorem encB_one {A : Nat → Prop} {w : World} {b : BillD} {vb vp : Value} (h1 : vb.oneCell' = true) (h2 : vp.oneCell' = true) : ∀ u ∈ encB b vb vp, u.oneCell' = true := by
  intro u hu
  simp [encB] at hu
  rcases hu with rfl | rfl | rfl | rfl | rfl | rfl | rfl | rfl | rfl <;> first | rfl | assumption
def runA (r : RegD) (l : List ActD) : RegD := l.foldl doA r
theorem runA_take {r : RegD} {l : List ActD} {i : Nat} (hi : i < l.length) : runA r (l.take (i + 1)) = doA (runA r (l.take i)) l[i] := by
  unfold runA
  rw [List.take_succ_eq_append_getElem hi, List.foldl_append]; rfl
theorem runA_carrier (r : RegD) (l : List ActD) : (runA r l).carrier = r.carrier := by
  unfold runA
  induction l generalizing r with
  | nil => rfl
  | cons a l ih => rw [List.foldl_cons, ih, do_carrier]
theorem good_run {k : Nat} {r : RegD} : ∀ {l : List ActD}, Good k r → (∀ a ∈ l, a.Ok) → (∀ a ∈ l, 0 ≤ a.kind ∧ a.kind ≤ 5) → Good (k + l.length) (runA r l)
  | [], h, _, _ => h
  | a :: l, h, h1, h2 => by
    have h0 := h1 a List.mem_cons_self
    have := good_run (l := l) (good_do h (h2 a List.mem_cons_self) h0.b h0.to_) (fun x hx => h1 x (List.mem_cons_of_mem _ hx)) (fun x hx => h2 x (List.mem_cons_of_mem _ hx))
    rw [List.length_cons, show k + (l.length + 1) = k + 1 + l.length from by omega]
    exact this
def regC : RegD := ⟨⟨#[99]⟩, []⟩
/-- What acts of both leave: two registers of one model, both new, apart. -/
structure PlayP (N : Nat) (w' : World) (r : RegD) (p m : Nat) (gs : List GhostE) (vL : Value) (fgs : List FG) (A : Nat → Prop) : Prop where
  rep : Rep w' p r m gs
  new : ∀ b ∈ foot p m gs, N ≤ b
  frep : FRep A w' vL r.l fgs
  dis : ∀ b, A b → b ∉ foot p m gs
  newA : ∀ b, A b → N ≤ b
set_option maxHeartbeats 4000000 in
theorem l23_play {A : Nat → Prop} {w : World} {v : Value} {l : List ActD} (hA : ActsAt A w v l) (hr : RightP l) : Ret Tryz.prog 11 [v] w fun u w' =>
    (∃ p m gs vL fgs A', u = .tuple #[.pointer (some ⟨p, 0, none⟩), .agg ⟨encR ⟨#[99]⟩ vL⟩] ∧ PlayP w.heap.size w' (runA regC l) p m gs vL fgs A') ∧ Ex w w' := by
  have hA0 := hA.lt
  have hlen := hr.1.1
  obtain ⟨pv_, cap, rfl, hm, _⟩ := hA.is
  obtain ⟨_, _, hve, _, hrow⟩ := hA0.is
  simp only [Value.slice.injEq] at hve
  obtain ⟨rfl, _, rfl⟩ := hve
  have good : ∀ i, i ≤ l.length → Good i (runA regC (l.take i)) := fun i hi => by
    have := good_run (l := l.take i) (good_new ⟨#[99]⟩) (fun a ha => hA.ok a (List.mem_of_mem_take ha)) (fun a ha => hr.2 a (List.mem_of_mem_take ha))
    have e : (l.take i).length = i := by simp; omega
    rw [e, Nat.zero_add] at this
    exact this
  refine ret_of Tryz.func11 Tryz.ntmps11 rfl rfl rfl ?_
  (repeat (first | refine lw_pure hT rfl ?_ | refine cw_seq ?_ | refine cw_region ?_))
  refine lw_alloc z28 ?_
  intro b3 w1 hbb3 hb3 hx1 hs1
  (repeat (first | refine lw_nil ?_ | refine cw_seq ?_ | refine cw_region ?_ | refine qw_then ?_))
  refine lw_call hT rfl rfl (reg_New w1 ⟨#[99]⟩) ?_
  rintro _ w2 ⟨p, m, rfl, hR, hp, hmm, hx2⟩
  skip
  refine lw_build bt28 rfl ?_
  skip
  refine lw_alloc z28 ?_
  intro b5 w3 hbb5 hb5 hx3 hs3
  (repeat (refine lw_pure hT rfl ?_))
  refine lw_store_agg hT rfl rfl rfl rfl (by intro v hv; simp at hv; rcases hv with rfl | rfl <;> rfl) hb5 (show (2 : Nat) ≤ 2 by decide) ?_
  intro w4 hb54 hx4 hs4
  replace hb54 : Blk w4 b5 (encR ⟨#[99]⟩ (.slice none 0 0)) 28 := hb54
  have hl1 := hx1.size
  have hl2 := hx2.size
  have hx24 : Ex w2 w4 := hx3.up_new hx4 (fun i h => by omega)
  have hx04 := (hx1.trans hx2).trans hx24
  have hl24 := hx24.size
  have hpl := hR.blk.lt
  obtain ⟨es, hMp, _⟩ := hR.map
  have hml := hMp.lt
  (repeat (first | refine lw_pure hT rfl ?_ | refine lw_nil ?_ | refine cw_seq ?_ | refine cw_region ?_ | refine qw_then ?_ | refine cw_block ?_))
  refine cw_loop (fun i : Nat => [(0, .slice pv_ l.length cap), (3, .pointer (some ⟨b3, 0, none⟩)), (4, .pointer (some ⟨p, 0, none⟩)), (5, .pointer (some ⟨b5, 0, none⟩)), (6, .int .i64 (i : Nat))])
    (fun i w' => i ≤ l.length ∧ Ex w w' ∧ w4.heap.size ≤ w'.heap.size ∧ (∃ cs, cs.length = 2 ∧ Blk w' b3 cs 28) ∧ ∃ gs vL fgs A', PlayP w.heap.size w' (runA regC (l.take i)) p m gs vL fgs A' ∧ Blk w' b5 (encR ⟨#[99]⟩ vL) 28 ∧ (b5 ∉ foot p m gs ∧ b3 ∉ foot p m gs) ∧ (¬ A' b5 ∧ ¬ A' b3))
    (fun i => l.length - i) 0 (by repeat (first | exact trivial | refine ⟨rfl, ?_⟩)) ⟨Nat.zero_le _, hx04, Nat.le_refl _, ⟨_, rfl, (hb3.ex hx2).ex hx24⟩, [], .slice none 0 0, [], fun _ => False, ⟨?_, ?_, ?_, fun _ h => h.elim, fun _ h => h.elim⟩, hb54, ?_, fun h => h, fun h => h⟩ ?_
  · exact hR.ex hx24
  · intro b hb
    rcases foot_mem.1 hb with rfl | rfl | ⟨i, g, h1, _⟩
    · omega
    · omega
    · simp at h1
  · exact ⟨rfl, (fun a n c h => by cases h; exact Nat.le_refl _), Sl.nil _ _ _, fun i x g h1 _ => by simp [runA, regC] at h1⟩
  · constructor <;> intro hb <;> rcases foot_mem.1 hb with h | h | ⟨i, g, h1, _⟩ <;> first | omega | simp at h1
  rintro i w5 ⟨hi, hx05, hl45, ⟨cs3, hcs3, hb35⟩, gs, vL, fgs, A', hP, hb55, ⟨hn5, hn3⟩, hA5, hA3⟩
  (repeat (first | refine lw_pure hT rfl ?_ | refine lw_nil ?_ | refine cw_seq ?_ | refine cw_region ?_ | refine qw_then ?_ | (refine lw_gon_t rfl ?_ ?_; focus (first | with_reducible rfl | with_reducible exact Bool.not_false | with_reducible exact Bool.not_true)) | refine lw_nep_some hT rfl rfl ?_))
  refine cw_cond rfl (fun h => ?_) (fun h => ?_)
  · have hlt : i < l.length := by have := of_decide_eq_true h; omega
    obtain ⟨b, o, vb, vp, rfl, hbA, hrd, hat⟩ := hrow i hlt
    have hg := good i hi
    have hdo := fun (w6 : World) (hx : Ex w5 w6) => l23_do (A0 := fun b => A b ∧ b < w.heap.size) (vb := vb) (vp := vp) (a := l[i]) (hP.rep.ex hx) hg (by omega) (hP.frep.lt.ex hx) hg (by omega) (fun b hb => hP.dis b hb.1) (hat.ex (hx05.trans hx)) (hr.2 _ (List.getElem_mem hlt))
    have ec : (runA regC (l.take i)).carrier = ⟨#[99]⟩ := runA_carrier _ _
    rw [ec] at hdo
    have hl05 := hx05.size
    have hfl5 : ∀ b ∈ foot p m gs, b < w5.heap.size := fun b hb => hP.rep.foot_lt hb
    have hl55 := hb55.lt
    have hl35 := hb35.lt
    (repeat (first | refine cw_seq ?_ | refine qw_then ?_ | refine cw_skip ?_ | refine cw_block ?_))
    refine cw_then_cut (α := Nat × Value) (fun u => [(0, .slice (some ⟨b, o, none⟩) l.length cap), (3, pB b3), (4, pB p), (5, pB b5), (6, .int .i64 (i : Nat)), (7, pB u.1), (8, .bool true)])
      (fun u w' => Ext (· ∈ foot p m gs) w5 w' ∧ Blk w' u.1 (encR ⟨#[99]⟩ u.2) 28 ∧ ∃ gs' fgs' A'', PlayP w.heap.size w' (runA regC (l.take (i + 1))) p m gs' u.2 fgs' A'' ∧ (∀ x ∈ foot p m gs', x ∈ foot p m gs ∨ w5.heap.size ≤ x) ∧ (∀ x, A'' x → A' x ∨ w5.heap.size ≤ x)) ?_ ?_
    · unfold pB
      refine cw_draw hM (fun w' => Ex w5 w') [6] rfl rfl (by repeat (first | with_reducible refine nop_then ?_ | with_reducible refine nop_block ?_ | with_reducible exact nop_body)) (fun w6 hx6 _ => ⟨hx6, ?_⟩)
      (refine rw_takeP 0 rfl rfl (by kernel_rfl) (by kernel_rfl) (by kernel_rfl) (by kernel_rfl) rfl (yo_pure hT rfl) ?_)
      refine rw_take 1 rfl rfl (by kernel_rfl) (by kernel_rfl) (by kernel_rfl) (by kernel_rfl) rfl (yo_load_agg hT rfl rfl rfl (vs := encR ⟨#[99]⟩ vL) (fun w' hS => (hb55.ex hS).rd 0 2)) ?_
      (refine rw_takeP 2 rfl rfl (by kernel_rfl) (by kernel_rfl) (by kernel_rfl) (by kernel_rfl) rfl (yo_pure hT rfl) ?_; refine rw_takeP 3 rfl rfl (by kernel_rfl) (by kernel_rfl) (by kernel_rfl) (by kernel_rfl) rfl (yo_pure hT rfl) ?_)
      refine rw_takeP 4 rfl rfl (by kernel_rfl) (by kernel_rfl) (by kernel_rfl) (by kernel_rfl) rfl (yo_index hT rfl rfl rfl i rfl hlt) ?_
      refine rw_take 5 rfl rfl (by kernel_rfl) (by kernel_rfl) (by kernel_rfl) (by kernel_rfl) rfl (yo_load_agg hT rfl rfl rfl (vs := encAct l[i] vb vp) (fun w' hS => hrd.ex (hx05.trans hS))) ?_
      refine rw_two 6 10 rfl rfl (by kernel_rfl) rfl rfl (fun hcl => ?_) (fun hcl => ?_)
      · refine lw_call hT rfl rfl (hdo w6 hx6) ?_
        rintro _ w7 ⟨⟨gs', vL', fgs', bb, A'', rfl, hbb, hR', hf', hF', hd', hA''⟩, hx7⟩
        have hbt := hbb rfl
        subst hbt
        have hl6 := hx6.size
        have hl7 := hx7.size
        (repeat (refine lw_nil ?_))
        refine qw_rw (by repeat (first | with_reducible refine nop_then ?_ | with_reducible refine nop_block ?_ | with_reducible exact nop_body)) hcl (fun h => absurd h (by decide)) ?_
        (refine rw_takeP 7 rfl rfl (by kernel_rfl) (by kernel_rfl) (by kernel_rfl) (by kernel_rfl) rfl (yo_pure hT rfl) ?_; refine rw_takeP 8 rfl rfl (by kernel_rfl) (by kernel_rfl) (by kernel_rfl) (by kernel_rfl) rfl (yo_pure hT rfl) ?_; refine rw_takeP 9 rfl rfl (by kernel_rfl) (by kernel_rfl) (by kernel_rfl) (by kernel_rfl) rfl (yo_pure hT rfl) ?_)
        refine rw_one 10 rfl (by kernel_rfl) rfl (fun hcl => ?_)
        refine lw_alloc z28 ?_
        intro b7 w8 hbb7 hb7 hx8 hs8
        (repeat (refine lw_nil ?_))
        refine qw_rw (by repeat (first | with_reducible refine nop_then ?_ | with_reducible refine nop_block ?_ | with_reducible exact nop_body)) hcl (fun h => absurd h (by decide)) ?_
        refine rw_one 11 rfl (by kernel_rfl) rfl (fun hcl => ?_)
        refine lw_store_agg hT rfl rfl rfl rfl (by intro v hv; simp [encR] at hv; rcases hv with rfl | rfl <;> first | rfl | exact Sl.one hF'.sl) hb7 (show (2 : Nat) ≤ 2 by decide) ?_
        intro w9 hb79 hx9 hs9
        (repeat (refine lw_nil ?_))
        refine qw_rw (by repeat (first | with_reducible refine nop_then ?_ | with_reducible refine nop_block ?_ | with_reducible exact nop_body)) hcl (fun h => absurd h (by decide)) ?_
        (refine rw_takeP 12 rfl rfl (by kernel_rfl) (by kernel_rfl) (by kernel_rfl) (by kernel_rfl) rfl (yo_pure hT rfl) ?_)
        refine rw_done (by kernel_rfl) ?_
        skip
        replace hb79 : Blk w9 b7 (encR ⟨#[99]⟩ vL') 28 := by rw [← ec]; exact hb79
        have hx79 : Ex w7 w9 := hx8.up_new hx9 (fun i h => by omega)
        refine qw_cut (b7, vL') (by repeat (first | exact trivial | refine ⟨rfl, ?_⟩)) ⟨((Ext.of_ex hx6).trans hx7).trans (Ext.of_ex hx79), hb79, gs', fgs', A'', ⟨?_, ?_, ?_, ?_, ?_⟩, ?_, ?_⟩
        · rw [runA_take hlt]; exact hR'.ex hx79
        · intro x hx
          rcases hf' x hx with h | h
          · exact hP.new x h
          · omega
        · rw [runA_take hlt]; exact hF'.ex hx79
        · exact hd'
        · intro x hx
          rcases hA'' x hx with h | h
          · exact hP.newA x h.1
          · omega
        · intro x hx
          rcases hf' x hx with h | h
          · exact .inl h
          · exact .inr (by omega)
        · intro x hx
          rcases hA'' x hx with h | h
          · exact .inl h.1
          · exact .inr (by omega)
      · refine lw_alloc z28 ?_
        intro b7 w7 hbb7 hb7 hx7 hs7
        (repeat (refine lw_nil ?_))
        have hx57 := hx6.trans hx7
        refine qw_rw (by repeat (first | with_reducible refine nop_then ?_ | with_reducible refine nop_block ?_ | with_reducible exact nop_body)) hcl (fun _ => hx57) ?_
        refine rw_one 6 rfl (by kernel_rfl) rfl (fun hcl => ?_)
        refine lw_call hT rfl rfl (hdo w7 hx57) ?_
        rintro _ w8 ⟨⟨gs', vL', fgs', bb, A'', rfl, hbb, hR', hf', hF', hd', hA''⟩, hx8⟩
        have hbt := hbb rfl
        subst hbt
        have hl6 := hx6.size
        have hl8 := hx8.size
        have hb78 := hb7.ext hx8 (fun h => by have := hfl5 _ h; omega)
        (repeat (refine lw_nil ?_))
        refine qw_rw (by repeat (first | with_reducible refine nop_then ?_ | with_reducible refine nop_block ?_ | with_reducible exact nop_body)) hcl (fun h => absurd h (by decide)) ?_
        (refine rw_takeP 7 rfl rfl (by kernel_rfl) (by kernel_rfl) (by kernel_rfl) (by kernel_rfl) rfl (yo_pure hT rfl) ?_; refine rw_takeP 8 rfl rfl (by kernel_rfl) (by kernel_rfl) (by kernel_rfl) (by kernel_rfl) rfl (yo_pure hT rfl) ?_; refine rw_takeP 9 rfl rfl (by kernel_rfl) (by kernel_rfl) (by kernel_rfl) (by kernel_rfl) rfl (yo_pure hT rfl) ?_)
        refine rw_one 11 rfl (by kernel_rfl) rfl (fun hcl => ?_)
        refine lw_store_agg hT rfl rfl rfl rfl (by intro v hv; simp [encR] at hv; rcases hv with rfl | rfl <;> first | rfl | exact Sl.one hF'.sl) hb78 (show (2 : Nat) ≤ 2 by decide) ?_
        intro w9 hb79 hx9 hs9
        (repeat (refine lw_nil ?_))
        refine qw_rw (by repeat (first | with_reducible refine nop_then ?_ | with_reducible refine nop_block ?_ | with_reducible exact nop_body)) hcl (fun h => absurd h (by decide)) ?_
        (refine rw_takeP 12 rfl rfl (by kernel_rfl) (by kernel_rfl) (by kernel_rfl) (by kernel_rfl) rfl (yo_pure hT rfl) ?_)
        refine rw_done (by kernel_rfl) ?_
        skip
        replace hb79 : Blk w9 b7 (encR ⟨#[99]⟩ vL') 28 := by rw [← ec]; exact hb79
        have hb7f : b7 ∉ foot p m gs' := fun h => by
          rcases hf' _ h with h | h
          · have := hfl5 _ h; omega
          · omega
        have hb7A : ¬ A'' b7 := fun h => by
          rcases hA'' _ h with h | h
          · have := h.2; omega
          · omega
        refine qw_cut (b7, vL') (by repeat (first | exact trivial | refine ⟨rfl, ?_⟩)) ⟨((Ext.of_ex hx57).trans hx8).up_new hx9 (fun i h => by omega), hb79, gs', fgs', A'', ⟨?_, ?_, ?_, ?_, ?_⟩, ?_, ?_⟩
        · rw [runA_take hlt]; exact hR'.frame hx9 (fun b hb e => hb7f (e ▸ hb))
        · intro x hx
          rcases hf' x hx with h | h
          · exact hP.new x h
          · omega
        · rw [runA_take hlt]; exact hF'.ext hx9 (fun b hb e => hb7A (e ▸ hb))
        · exact hd'
        · intro x hx
          rcases hA'' x hx with h | h
          · exact hP.newA x h.1
          · omega
        · intro x hx
          rcases hf' x hx with h | h
          · exact .inl h
          · exact .inr (by omega)
        · intro x hx
          rcases hA'' x hx with h | h
          · exact .inl h.1
          · exact .inr (by omega)
    · rintro ⟨b7, vL'⟩ w6 ⟨hx6, hb7, gs', fgs', A'', hP', hf', hA''⟩
      dsimp only at hb7 hP' ⊢
      unfold pB
      have hl6 := hx6.size
      have hb56 := hb55.ext hx6 hn5
      have hb36 := hb35.ext hx6 hn3
      have hn5' : b5 ∉ foot p m gs' := fun h => by
        rcases hf' _ h with h | h
        · exact hn5 h
        · omega
      have hn3' : b3 ∉ foot p m gs' := fun h => by
        rcases hf' _ h with h | h
        · exact hn3 h
        · omega
      have hA5' : ¬ A'' b5 := fun h => by
        rcases hA'' _ h with h | h
        · exact hA5 h
        · omega
      have hA3' : ¬ A'' b3 := fun h => by
        rcases hA'' _ h with h | h
        · exact hA3 h
        · omega
      (repeat (first | refine cw_seq ?_ | refine cw_region ?_ | refine qw_then ?_))
      refine lw_load_agg hT rfl rfl rfl (vs := encR ⟨#[99]⟩ vL') (hb7.rd 0 2) ?_
      skip
      refine lw_store_agg hT rfl rfl rfl rfl (by intro v hv; simp [encR] at hv; rcases hv with rfl | rfl <;> first | rfl | exact Sl.one hP'.frep.sl) hb56 (show (2 : Nat) ≤ 2 by decide) ?_
      intro w7 hb57 hx7 hs7
      replace hb57 : Blk w7 b5 (encR ⟨#[99]⟩ vL') 28 := hb57
      (repeat (first | (refine lw_add rfl rfl ?_ ?_ ?_; iterate 2 omega) | refine lw_pure hT rfl ?_ | refine lw_nil ?_ | refine cw_seq ?_ | refine cw_region ?_ | refine qw_then ?_ | refine cw_skip ?_ | refine qw_block ?_ | (refine cw_cond_f rfl ?_ ?_; focus (first | with_reducible rfl | with_reducible exact Bool.not_false | with_reducible exact Bool.not_true))))
      have hx07 : Ex w w7 := (hx05.up_new hx6 (fun x hx => hP.new x hx)).up_new hx7 (fun i h => by omega)
      refine qw_round (i + 1) (by repeat (first | exact trivial | refine ⟨rfl, ?_⟩)) ⟨hlt, hx07, by have := hx7.size; omega, ⟨cs3, hcs3, hb36.ext hx7 (by omega)⟩, gs', vL', fgs', A'', ⟨hP'.rep.frame hx7 (fun b hb e => hn5' (e ▸ hb)), hP'.new, hP'.frep.ext hx7 (fun b hb e => hA5' (e ▸ hb)), hP'.dis, hP'.newA⟩, hb57, ⟨hn5', hn3'⟩, hA5', hA3'⟩ (by omega)
  · have : i = l.length := by have := of_decide_eq_false h; omega
    subst this
    rw [List.take_length] at hP
    (repeat (first | refine cw_seq ?_ | refine qw_then ?_ | refine cw_exit ?_ | refine qw_block_exit ?_ | refine qw_then_exit ?_))
    refine cw_draw hM (fun w' => Ex w5 w') [3] rfl rfl (by repeat (first | with_reducible refine nop_then ?_ | with_reducible refine nop_block ?_ | with_reducible exact nop_body)) (fun w6 hx6 _ => ⟨hx6, ?_⟩)
    (refine rw_takeP 0 rfl rfl (by kernel_rfl) (by kernel_rfl) (by kernel_rfl) (by kernel_rfl) rfl (yo_pure hT rfl) ?_)
    refine rw_take 1 rfl rfl (by kernel_rfl) (by kernel_rfl) (by kernel_rfl) (by kernel_rfl) rfl (yo_load_agg hT rfl rfl rfl (vs := encR ⟨#[99]⟩ vL) (fun w' hS => (hb55.ex hS).rd 0 2)) ?_
    (refine rw_takeP 2 rfl rfl (by kernel_rfl) (by kernel_rfl) (by kernel_rfl) (by kernel_rfl) rfl (yo_pure hT rfl) ?_)
    refine rw_one 3 rfl (by kernel_rfl) rfl (fun hcl => ?_)
    refine lw_store_agg hT rfl rfl rfl rfl (by intro v hv; simp [encR] at hv; rcases hv with rfl | rfl <;> first | rfl | exact Sl.one hP.frep.sl) (hb35.ex hx6) (show (0 : Nat) + 2 ≤ cs3.length by rw [hcs3]; decide) ?_
    intro w7 hb37 hx7 hs7
    (repeat (refine lw_nil ?_))
    refine qw_rw (by repeat (first | with_reducible refine nop_then ?_ | with_reducible refine nop_block ?_ | with_reducible exact nop_body)) hcl (fun h => absurd h (by decide)) ?_
    refine rw_done (by kernel_rfl) ?_
    (repeat (first | refine qw_then ?_ | refine cw_ret ?_))
    match cs3, hcs3 with
    | [c1, c2], _ =>
      replace hb37 : Blk w7 b3 (encR ⟨#[99]⟩ vL) 28 := hb37
      exact qw_ret_tmp_cell hT rfl rfl rfl rfl rfl (vs := encR ⟨#[99]⟩ vL) (hb37.rd 0 2) ⟨⟨p, m, gs, vL, fgs, A', rfl, (hP.rep.ex hx6).frame hx7 (fun b hb e => hn3 (e ▸ hb)), hP.new, (hP.frep.ex hx6).ext hx7 (fun b hb e => hA3 (e ▸ hb)), hP.dis, hP.newA⟩, (hx05.trans hx6).up_new hx7 (fun i h => by omega)⟩
end Go.Proofs.YtfbjpfgglgffgaaGreat
