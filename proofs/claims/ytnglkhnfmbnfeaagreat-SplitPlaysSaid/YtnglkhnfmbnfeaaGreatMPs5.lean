import Derived.Test.YtnglkhnfmbnfeaaGreatMPs4
import Derived.Shelf.SlIter.Nil
import Derived.Shelf.SortM.Plain
import Derived.Shelf.SortM.SortNone
import Derived.Ground.GgzProg
import Derived.Ground.SlgmProg
import Derived.Test.YtnglkhnfmbnfeaaGreatProg
import Derived.Laws.StructEq
import Derived.Sort.Walk0
set_option linter.unusedVariables false
set_option linter.unusedSimpArgs false
set_option linter.unusedSectionVars false
set_option linter.unnecessarySimpa false
namespace Go.Proofs.YtnglkhnfmbnfeaaGreat
open Go Go.SK
theorem stepsC_at {r : RegD} {l : List ActD} {i : Nat} (hi : i < l.length) (h0 : stepsC r (l.take i) = 0) (h : actC (runA r (l.take i)) l[i] ≠ 0) : stepsC r l = actC (runA r (l.take i)) l[i] := by
  have e : l = l.take i ++ l[i] :: l.drop (i + 1) := by rw [List.getElem_cons_drop]; exact (List.take_append_drop i l).symm
  have := stepsC_append r (l.take i) (l[i] :: l.drop (i + 1))
  rw [← e, if_pos h0] at this
  rw [this]
  simp only [stepsC]
  rw [if_neg h]
theorem stepsC_take {r : RegD} {l : List ActD} {i : Nat} (hi : i < l.length) (h0 : stepsC r (l.take i) = 0) (h : actC (runA r (l.take i)) l[i] = 0) : stepsC r (l.take (i + 1)) = 0 := by
  rw [List.take_succ_eq_append_getElem hi, stepsC_snoc, if_pos h0]; exact h
structure RetAt (A : Nat → Prop) (w : World) (v : Value) (a : ActD) : Prop where
  is : ∃ b1 b2 b3, v = .func (.func 92) #[] #[.pointer (some ⟨b1, 0, none⟩), .pointer (some ⟨b2, 0, none⟩), .pointer (some ⟨b3, 0, none⟩)] ∧ A b1 ∧ A b2 ∧ A b3 ∧ Blk w b1 [.string a.bill] 9 ∧ Blk w b2 [.string a.by_] 9 ∧ Blk w b3 [.int .i64 a.day] 3
  kind : a.kind = 5
structure IssAt (A : Nat → Prop) (w : World) (v : Value) (a : ActD) : Prop where
  is : ∃ b1 b2 vb vp, v = .func (.func 93) #[] #[.pointer (some ⟨b1, 0, none⟩), .pointer (some ⟨b2, 0, none⟩)] ∧ A b1 ∧ A b2 ∧ Blk w b1 (encB a.b vb vp) 33 ∧ SlS A w vb a.b.boxes ∧ SlS A w vp a.b.parents ∧ Blk w b2 [.string a.to_] 9
  kind : a.kind = 0
def StepAt (A : Nat → Prop) (w : World) (v : Value) (a : ActD) : Prop := RetAt A w v a ∨ IssAt A w v a
theorem StepAt.ext {A F : Nat → Prop} {w w' : World} {v : Value} {a : ActD} (h : StepAt A w v a) (hx : Ext F w w') (hn : ∀ b, A b → ¬ F b) : StepAt A w' v a := by
  rcases h with h | h
  · obtain ⟨b1, b2, b3, h1, h2, h3, h4, h5, h6, h7⟩ := h.is
    exact .inl ⟨⟨b1, b2, b3, h1, h2, h3, h4, h5.ext hx (hn _ h2), h6.ext hx (hn _ h3), h7.ext hx (hn _ h4)⟩, h.kind⟩
  · obtain ⟨b1, b2, vb, vp, h1, h2, h3, h4, h5, h6, h7⟩ := h.is
    exact .inr ⟨⟨b1, b2, vb, vp, h1, h2, h3, h4.ext hx (hn _ h2), h5.ext hx hn, h6.ext hx hn, h7.ext hx (hn _ h3)⟩, h.kind⟩
theorem StepAt.ex {A : Nat → Prop} {w w' : World} {v : Value} {a : ActD} (h : StepAt A w v a) (hx : Ex w w') : StepAt A w' v a := h.ext hx fun _ _ f => f
theorem step_call {A : Nat → Prop} {w : World} {v : Value} {a : ActD} (h : StepAt A w v a) {p m : Nat} {r : RegD} {gs : List GhostE} (hR : Rep w p r m gs) (hN : r.Nd) (hok : a.Ok) :
    ∃ f c, v = .func (.func f) ⟨[]⟩ ⟨c⟩ ∧ memN T.fns f = true ∧ Ret Tryz.prog f ([] ++ [.pointer (some ⟨p, 0, none⟩)] ++ c) w fun u w' => u = .int .i64 (actC r a) ∧ Mut w p m gs (doA r a) w' := by
  rcases h with h | h
  · obtain ⟨b1, b2, b3, rfl, h2, h3, h4, h5, h6, h7⟩ := h.is
    refine ⟨_, [_, _, _], rfl, rfl, ?_⟩
    refine ret_of Tryz.func92 Tryz.ntmps92 rfl rfl rfl ?_
    (repeat (first | refine lw_pure hT rfl ?_ | refine lw_nil ?_ | refine cw_seq ?_ | refine cw_region ?_ | refine qw_then ?_))
    refine lw_load hT rfl rfl (v := .string a.bill) (h5.cell 0) ?_
    skip
    refine lw_load hT rfl rfl (v := .string a.by_) (h6.cell 0) ?_
    skip
    refine lw_load hT rfl rfl (v := .int .i64 a.day) (h7.cell 0) ?_
    skip
    refine lw_call hT rfl rfl (reg_Retire hR hN a h.kind) ?_
    rintro _ w1 ⟨rfl, hm⟩
    (repeat (first | refine lw_pure hT rfl ?_ | refine lw_nil ?_ | refine qw_then ?_ | refine cw_ret ?_))
    exact qw_ret rfl ⟨rfl, hm⟩
  · obtain ⟨b1, b2, vb, vp, rfl, h2, h3, h4, h5, h6, h7⟩ := h.is
    refine ⟨_, [_, _], rfl, rfl, ?_⟩
    have hk := h.kind
    refine ret_of Tryz.func93 Tryz.ntmps93 rfl rfl rfl ?_
    (repeat (first | refine lw_pure hT rfl ?_ | refine lw_nil ?_ | refine cw_seq ?_ | refine cw_region ?_ | refine qw_then ?_))
    refine lw_load_agg hT rfl rfl rfl (vs := encB a.b vb vp) (h4.rd 0 9) ?_
    skip
    refine lw_load hT rfl rfl (v := .string a.to_) (h7.cell 0) ?_
    skip
    refine lw_call hT rfl rfl (reg_Issue hR h5 h6 hok.b a.to_ hok.to_) ?_
    rintro _ w1 ⟨rfl, hm⟩
    (repeat (first | refine lw_pure hT rfl ?_ | refine lw_nil ?_ | refine qw_then ?_ | refine cw_ret ?_))
    have e1 : actC r a = issueC r a.b a.to_ := by unfold actC; rw [if_pos hk]
    have e2 : doA r a = issueD r a.b a.to_ := by unfold doA; rw [if_pos hk]
    exact qw_ret rfl ⟨by rw [e1]; rfl, by rw [e2]; exact hm⟩
structure StepsAt (A : Nat → Prop) (w : World) (v : Value) (l : List ActD) : Prop where
  is : ∃ b o cap, v = .slice (some ⟨b, o, none⟩) l.length cap ∧ A b ∧ ∀ i (hi : i < l.length), ∃ fv, Rd w b (o + i * 1) [fv] ∧ StepAt A w fv l[i]
  small : l.length ≤ 65
theorem StepsAt.ext {A F : Nat → Prop} {w w' : World} {v : Value} {l : List ActD} (h : StepsAt A w v l) (hx : Ext F w w') (hn : ∀ b, A b → ¬ F b) : StepsAt A w' v l := by
  obtain ⟨b, o, cap, h1, h2, h3⟩ := h.is
  refine ⟨⟨b, o, cap, h1, h2, fun i hi => ?_⟩, h.small⟩
  obtain ⟨fv, h4, h5⟩ := h3 i hi
  exact ⟨fv, h4.ext hx (hn b h2), h5.ext hx hn⟩
set_option maxHeartbeats 2000000 in
theorem spl_do {A : Nat → Prop} {w : World} {p m k : Nat} {r : RegD} {gs : List GhostE} {v : Value} {l : List ActD} (hR : Rep w p r m gs) (hG : Good k r) (hk : k + l.length ≤ 1000000) (hS : StepsAt A w v l) (hok : ∀ a ∈ l, StepOk a) (hdis : ∀ b, A b → b ∉ foot p m gs ∧ b < w.heap.size) :
    Ret Tryz.prog 47 [.pointer (some ⟨p, 0, none⟩), v] w fun u w' => u = .int .i64 (stepsC r l) ∧ Mut w p m gs (stepsR r l) w' := by
  obtain ⟨b, o, cap, rfl, hAb, hrow⟩ := hS.is
  have hsm := hS.small
  have good : ∀ i, i ≤ l.length → Good (k + i) (runA r (l.take i)) := fun i hi => by
    have := good_run (l := l.take i) hG (fun a ha => (hok a (List.mem_of_mem_take ha)).2) (fun a ha => by have := (hok a (List.mem_of_mem_take ha)).1; omega)
    have e : (l.take i).length = i := by simp; omega
    rw [e] at this
    exact this
  refine ret_of Tryz.func47 Tryz.ntmps47 rfl rfl rfl ?_
  (repeat (first | refine lw_pure hT rfl ?_ | refine lw_nil ?_ | refine cw_seq ?_ | refine cw_region ?_ | refine qw_then ?_))
  refine lw_call hT rfl rfl (reg_Copy hR (hG.small (by omega))) ?_
  rintro _ w1 ⟨⟨pc, mc, gc, rfl, hC, hCn⟩, hx1⟩
  (repeat (first | refine lw_pure hT rfl ?_ | refine lw_nil ?_ | refine cw_seq ?_ | refine cw_region ?_ | refine qw_then ?_ | refine cw_block ?_))
  refine cw_loop (fun i : Nat => [(0, pB p), (1, .slice (some ⟨b, o, none⟩) l.length cap), (5, pB pc), (13, .slice (some ⟨b, o, none⟩) l.length cap), (14, .int .i64 (l.length : Nat)), (15, .int .i64 (i : Nat))])
    (fun i w' => i ≤ l.length ∧ Ex w w' ∧ stepsC r (l.take i) = 0 ∧ ∃ gc', Rep w' pc (runA r (l.take i)) mc gc' ∧ ∀ b ∈ foot pc mc gc', w.heap.size ≤ b) (fun i => l.length - i) 0 (by repeat (first | exact trivial | refine ⟨rfl, ?_⟩)) ⟨Nat.zero_le _, hx1, rfl, gc, hC, hCn⟩ ?_
  rintro i w2 ⟨hi, hx2, hst, gc', hC2, hCn2⟩
  unfold pB
  (repeat (first | refine lw_pure hT rfl ?_ | refine lw_nil ?_ | refine cw_seq ?_ | refine cw_region ?_ | refine qw_then ?_))
  refine cw_cond rfl (fun e => ?_) (fun e => ?_)
  · have hlt : i < l.length := by have := of_decide_eq_true e; omega
    obtain ⟨fv, hrd, hstep⟩ := hrow i hlt
    obtain ⟨f, c, rfl, hf, hret⟩ := step_call (hstep.ex hx2) hC2 (good i hi).nd (hok _ (List.getElem_mem hlt)).2
    (repeat (first | refine cw_seq ?_ | refine cw_region ?_ | refine qw_then ?_ | refine cw_skip ?_ | refine cw_block ?_))
    refine lw_index hT rfl rfl rfl i rfl hlt ?_
    skip
    refine lw_load hT rfl rfl (v := .func (.func f) ⟨[]⟩ ⟨c⟩) ((hrd.ex hx2) 0 _ rfl) ?_
    (repeat (first | refine lw_pure hT rfl ?_ | refine lw_nil ?_ | refine cw_seq ?_ | refine cw_region ?_ | refine qw_then ?_))
    refine lw_call_fn hT rfl hf rfl hret ?_
    rintro _ w3 ⟨rfl, hm⟩
    have hx3 : Ex w w3 := hx2.up_new hm.ext hCn2
    (repeat (first | refine lw_pure hT rfl ?_ | refine lw_nil ?_ | refine cw_seq ?_ | refine cw_region ?_ | refine qw_then ?_))
    refine cw_cond rfl (fun e => ?_) (fun e => ?_)
    · have hne : actC (runA r (l.take i)) l[i] ≠ 0 := by simpa using e
      have hs := stepsC_at hlt hst hne
      (repeat (first | refine lw_pure hT rfl ?_ | refine lw_nil ?_ | refine cw_seq ?_ | refine cw_region ?_ | refine qw_then ?_ | refine cw_ret ?_ | refine qw_then_ret ?_ | refine qw_block_ret ?_))
      refine qw_ret rfl ⟨by rw [hs]; rfl, ?_⟩
      have e2 : stepsR r l = r := by unfold stepsR; rw [if_neg (by rw [hs]; exact hne)]
      rw [e2]
      exact Mut.of_ex hR hx3
    · have heq : actC (runA r (l.take i)) l[i] = 0 := by simpa using e
      obtain ⟨gc3, hC3, hf3⟩ := hm.is
      (repeat (first | (refine lw_add rfl rfl ?_ ?_ ?_; iterate 2 omega) | refine lw_pure hT rfl ?_ | refine lw_nil ?_ | refine cw_region ?_ | refine qw_then ?_ | refine cw_skip ?_ | refine qw_block ?_))
      refine qw_round (i + 1) (by repeat (first | exact trivial | refine ⟨rfl, ?_⟩)) ⟨hlt, hx3, stepsC_take hlt hst heq, gc3, by rw [runA_take hlt]; exact hC3, fun b hb => ?_⟩ (by omega)
      rcases hf3 b hb with h | h
      · exact hCn2 b h
      · have := hx2.size; omega
  · have hil : i = l.length := by have := of_decide_eq_false e; omega
    subst hil
    rw [List.take_length] at hst
    (repeat (first | refine lw_pure hT rfl ?_ | refine lw_nil ?_ | refine cw_seq ?_ | refine cw_region ?_ | refine qw_then ?_ | refine cw_block ?_ | refine cw_exit ?_ | refine qw_block_exit ?_ | refine qw_then_exit ?_))
    refine cw_loop (fun i : Nat => [(0, pB p), (1, .slice (some ⟨b, o, none⟩) l.length cap), (26, .slice (some ⟨b, o, none⟩) l.length cap), (27, .int .i64 (l.length : Nat)), (28, .int .i64 (i : Nat))])
      (fun i w' => i ≤ l.length ∧ Mut w2 p m gs (runA r (l.take i)) w') (fun i => l.length - i) 0 (by repeat (first | exact trivial | refine ⟨rfl, ?_⟩)) ⟨Nat.zero_le _, Mut.of_ex (hR.ex hx2) (Ext.refl _ _)⟩ ?_
    rintro j w3 ⟨hj, hm⟩
    obtain ⟨gs3, hR3, hf3⟩ := hm.is
    unfold pB
    (repeat (first | refine lw_pure hT rfl ?_ | refine lw_nil ?_ | refine cw_seq ?_ | refine cw_region ?_ | refine qw_then ?_))
    refine cw_cond rfl (fun e => ?_) (fun e => ?_)
    · have hlt : j < l.length := by have := of_decide_eq_true e; omega
      obtain ⟨fv, hrd, hstep⟩ := hrow j hlt
      obtain ⟨f, c, rfl, hf, hret⟩ := step_call ((hstep.ex hx2).ext hm.ext (fun b hb => (hdis b hb).1)) hR3 (good j hj).nd (hok _ (List.getElem_mem hlt)).2
      (repeat (first | refine cw_seq ?_ | refine cw_region ?_ | refine qw_then ?_ | refine cw_skip ?_ | refine cw_block ?_))
      refine lw_index hT rfl rfl rfl j rfl hlt ?_
      skip
      refine lw_load hT rfl rfl (v := .func (.func f) ⟨[]⟩ ⟨c⟩) (((hrd.ex hx2).ext hm.ext (hdis b hAb).1) 0 _ rfl) ?_
      (repeat (first | refine lw_pure hT rfl ?_ | refine lw_nil ?_ | refine cw_region ?_ | refine qw_then ?_))
      refine lw_call_fn hT rfl hf rfl hret ?_
      rintro _ w4 ⟨rfl, hm4⟩
      (repeat (first | (refine lw_add rfl rfl ?_ ?_ ?_; iterate 2 omega) | refine lw_pure hT rfl ?_ | refine lw_nil ?_ | refine cw_region ?_ | refine qw_then ?_ | refine qw_block ?_))
      exact qw_round (j + 1) (by repeat (first | exact trivial | refine ⟨rfl, ?_⟩)) ⟨hlt, by rw [runA_take hlt]; exact Mut.step hf3 hm.ext hm4⟩ (by omega)
    · have hjl : j = l.length := by have := of_decide_eq_false e; omega
      subst hjl
      rw [List.take_length] at hm
      (repeat (first | refine lw_pure hT rfl ?_ | refine lw_nil ?_ | refine cw_seq ?_ | refine cw_region ?_ | refine qw_then ?_ | refine cw_ret ?_ | refine cw_exit ?_ | refine qw_block_exit ?_ | refine qw_then_exit ?_))
      refine qw_ret rfl ⟨by rw [hst]; rfl, ?_⟩
      have e2 : stepsR r l = runA r l := by unfold stepsR; rw [if_pos hst]
      rw [e2]
      exact Mut.step (w' := w2) (fun b hb => .inl hb) (Ext.of_ex hx2) hm
end Go.Proofs.YtnglkhnfmbnfeaaGreat
namespace Go.Proofs.YtnglkhnfmbnfeaaGreat
open Go Go.SK
def NewIn (N : Nat) (w' : World) (b : Nat) : Prop := N ≤ b ∧ b < w'.heap.size
theorem RetAt.mono {A B : Nat → Prop} {w : World} {v : Value} {a : ActD} (h : RetAt A w v a) (hAB : ∀ b, A b → B b) : RetAt B w v a := by
  obtain ⟨b1, b2, b3, h1, h2, h3, h4, h5⟩ := h.is
  exact ⟨⟨b1, b2, b3, h1, hAB _ h2, hAB _ h3, hAB _ h4, h5⟩, h.kind⟩
theorem Sl.up {A B : Nat → Prop} {w : World} {v : Value} {size : Nat} {rows : List (List Value)} (h : Sl A w v size rows) (hAB : ∀ b, A b → B b) : Sl B w v size rows := by
  obtain ⟨a, cap, hv, hz, hr⟩ := h.is
  exact ⟨⟨a, cap, hv, hz, fun hne => by obtain ⟨b, o, ha, hb, hrd⟩ := hr hne; exact ⟨b, o, ha, hAB b hb, hrd⟩⟩, h.small⟩
theorem IssAt.mono {A B : Nat → Prop} {w : World} {v : Value} {a : ActD} (h : IssAt A w v a) (hAB : ∀ b, A b → B b) : IssAt B w v a := by
  obtain ⟨b1, b2, vb, vp, h1, h2, h3, h4, h5, h6, h7⟩ := h.is
  exact ⟨⟨b1, b2, vb, vp, h1, hAB _ h2, hAB _ h3, h4, Sl.up h5 hAB, Sl.up h6 hAB, h7⟩, h.kind⟩
theorem StepAt.mono {A B : Nat → Prop} {w : World} {v : Value} {a : ActD} (h : StepAt A w v a) (hAB : ∀ b, A b → B b) : StepAt B w v a := by
  rcases h with h | h
  · exact .inl (h.mono hAB)
  · exact .inr (h.mono hAB)
theorem spl_retire (bill by_ : ByteArray) (day : Int) (w : World) : Ret Tryz.prog 43 [.string bill, .string by_, .int .i64 day] w fun v w' => RetAt (NewIn w.heap.size w') w' v (retiA bill by_ day) ∧ v.oneCell' = true ∧ Ex w w' := by
  refine ret_of Tryz.func43 Tryz.ntmps43 rfl rfl rfl ?_
  (repeat (first | refine cw_seq ?_ | refine cw_region ?_))
  refine lw_box rfl ?_
  intro b1 w1 hbb1 hb1 hx1 hs1
  replace hb1 : Blk w1 b1 [.string bill] 9 := hb1
  skip
  refine lw_box rfl ?_
  intro b2 w2 hbb2 hb2 hx2 hs2
  replace hb2 : Blk w2 b2 [.string by_] 9 := hb2
  skip
  refine lw_box rfl ?_
  intro b3 w3 hbb3 hb3 hx3 hs3
  replace hb3 : Blk w3 b3 [.int .i64 day] 3 := hb3
  (repeat (first | refine lw_pure hT rfl ?_ | refine lw_nil ?_ | refine cw_seq ?_ | refine cw_region ?_ | refine qw_then ?_ | refine cw_ret ?_))
  exact qw_ret rfl ⟨⟨⟨b1, b2, b3, rfl, ⟨by omega, by omega⟩, ⟨by omega, by omega⟩, ⟨by omega, by omega⟩, (hb1.ex hx2).ex hx3, hb2.ex hx3, hb3⟩, rfl⟩, rfl, (hx1.trans hx2).trans hx3⟩
theorem spl_issue {A : Nat → Prop} {b : BillD} {vb vp : Value} (holder : ByteArray) (w : World) (hB : SlS A w vb b.boxes) (hP : SlS A w vp b.parents) : Ret Tryz.prog 44 [.agg ⟨encB b vb vp⟩, .string holder] w fun v w' => IssAt (fun x => A x ∨ NewIn w.heap.size w' x) w' v (issA b holder) ∧ v.oneCell' = true ∧ Ex w w' := by
  refine ret_of Tryz.func44 Tryz.ntmps44 rfl rfl rfl ?_
  (repeat (first | refine cw_seq ?_ | refine cw_region ?_))
  refine lw_box rfl ?_
  intro b1 w1 hbb1 hb1 hx1 hs1
  replace hb1 : Blk w1 b1 (encB b vb vp) 33 := hb1
  skip
  refine lw_box rfl ?_
  intro b2 w2 hbb2 hb2 hx2 hs2
  replace hb2 : Blk w2 b2 [.string holder] 9 := hb2
  have hx02 := hx1.trans hx2
  (repeat (first | refine lw_pure hT rfl ?_ | refine lw_nil ?_ | refine cw_seq ?_ | refine cw_region ?_ | refine qw_then ?_ | refine cw_ret ?_))
  exact qw_ret rfl ⟨⟨⟨b1, b2, vb, vp, rfl, .inr ⟨by omega, by omega⟩, .inr ⟨by omega, by omega⟩, hb1.ex hx2, Sl.up (hB.ex hx02) fun _ h => .inl h, Sl.up (hP.ex hx02) fun _ h => .inl h, hb2⟩, rfl⟩, rfl, hx02⟩
theorem spl_next {b : BillD} {vb vp : Value} (number : ByteArray) (day : Int) (boxes parents : List ByteArray) {a1 a2 : Option Addr} {n1 n2 c1 c2 : Nat} (w : World) : Ret Tryz.prog 45 [.agg ⟨encB b vb vp⟩, .string number, .slice a1 n1 c1, .int .i64 day, .slice a2 n2 c2] w fun v w' => v = .agg ⟨encB (nextB b number boxes parents day) (.slice a1 n1 c1) (.slice a2 n2 c2)⟩ ∧ Ex w w' := by
  refine ret_of Tryz.func45 Tryz.ntmps45 rfl rfl rfl ?_
  (repeat (first | refine cw_seq ?_ | refine cw_region ?_))
  refine lw_box rfl ?_
  intro b5 w1 hbb1 hb1 hx1 hs1
  replace hb1 : Blk w1 b5 (encB b vb vp) 33 := hb1
  skip
  refine lw_alloc z33 ?_
  intro b10 w2 hbb2 hb2 hx2 hs2
  have hb12 := hb1.ex hx2
  (repeat (first | refine lw_pure hT rfl ?_ | refine lw_nil ?_ | refine cw_seq ?_ | refine cw_region ?_ | refine qw_then ?_))
  refine lw_load hT rfl rfl (v := .string b.carrier) (hb12.cell 1) ?_
  (repeat (refine lw_pure hT rfl ?_))
  refine lw_load hT rfl rfl (v := .string b.shipper) (hb12.cell 2) ?_
  (repeat (refine lw_pure hT rfl ?_))
  refine lw_load hT rfl rfl (v := .string b.frm) (hb12.cell 3) ?_
  (repeat (refine lw_pure hT rfl ?_))
  refine lw_load hT rfl rfl (v := .string b.to_) (hb12.cell 4) ?_
  (repeat (refine lw_pure hT rfl ?_))
  refine lw_load hT rfl rfl (v := .bool b.clean) (hb12.cell 8) ?_
  skip
  refine lw_build bt33 rfl ?_
  skip
  refine lw_store_agg hT rfl rfl rfl rfl (encB_one (A := fun _ => True) (w := w) (b := nextB b number boxes parents day) rfl rfl) hb2 (show (9 : Nat) ≤ 9 by decide) ?_
  intro w3 hb23 hx3 hs3
  replace hb23 : Blk w3 b10 (encB (nextB b number boxes parents day) (.slice a1 n1 c1) (.slice a2 n2 c2)) 33 := hb23
  (repeat (first | refine lw_nil ?_ | refine qw_then ?_ | refine cw_ret ?_))
  exact qw_ret_cell hT rfl rfl rfl rfl (vs := encB (nextB b number boxes parents day) (.slice a1 n1 c1) (.slice a2 n2 c2)) (hb23.rd 0 9) rfl ⟨rfl, hx1.trans (hx2.up_new hx3 (fun i h => by omega))⟩
end Go.Proofs.YtnglkhnfmbnfeaaGreat
namespace Go.Proofs.YtnglkhnfmbnfeaaGreat
open Go Go.SK
theorem origs_row {r : RegD} {n : ByteArray} {x : EntD} {w : World} {u : Value} {base : Nat} (h : r.at? n = some x) (h3 : x.ps.length = 3) (ho : w.ownsRow base 129 4 u (r.origsOf n).length ((r.origsOf n).map fun y => origRow n y.1 y.2).flatten) :
    ∃ g c, u = .slice (some ⟨g, 0, none⟩) 3 c ∧ base ≤ g ∧ ∀ i, i < 3 → Rd w g (0 + i * 4) (origRow n (papAt x i) i) := by
  have h3' : (r.origsOf n).length = 3 := (orig_at h h3 (i := 0) (by decide)).2
  obtain ⟨g, c, rfl⟩ := own_slice ho (by omega)
  rw [h3'] at ho ⊢
  have hsl : Sl (fun _ => True) w (.slice (some ⟨g, 0, none⟩) 3 c) 4 ((r.origsOf n).map fun y => origRow n y.1 y.2) := own_sl (by rw [List.length_map, h3']; exact ho) (by intro r hr; obtain ⟨y, _, rfl⟩ := List.mem_map.1 hr; rfl) (fun _ _ => trivial)
  refine ⟨g, c, rfl, (own_base ho rfl).1, fun i hi => ?_⟩
  obtain ⟨bb, oo, cc, hv, _, _, _, hrd⟩ := hsl.at (i := i) (row := origRow n (papAt x i) i) (by rw [List.getElem?_map, (orig_at h h3 hi).1]; rfl)
  simp only [Value.slice.injEq, Option.some.injEq, Addr.mk.injEq, and_true] at hv
  obtain ⟨⟨rfl, rfl⟩, _, _⟩ := hv
  exact hrd
theorem own_slice0 {w : World} {base e size n : Nat} {v : Value} {xs : List Value} (h : w.ownsRow base e size v n xs) : ∃ a cap, v = .slice a n cap := by
  rcases h.2 with ⟨rfl, h0⟩ | ⟨g, cap, cur, rfl, _⟩
  · subst h0; exact ⟨none, 0, rfl⟩
  · exact ⟨_, cap, rfl⟩
end Go.Proofs.YtnglkhnfmbnfeaaGreat
namespace Go.Proofs.YtnglkhnfmbnfeaaGreat
open Go Go.SK
theorem StepAt_ret {A : Nat → Prop} {w w' : World} {v : Value} {a : ActD} (h : RetAt A w v a) (hx : Ex w w') : RetAt A w' v a := by
  obtain ⟨b1, b2, b3, h1, h2, h3, h4, h5, h6, h7⟩ := h.is
  exact ⟨⟨b1, b2, b3, h1, h2, h3, h4, h5.ex hx, h6.ex hx, h7.ex hx⟩, h.kind⟩
theorem StepAt_iss {A : Nat → Prop} {w w' : World} {v : Value} {a : ActD} (h : IssAt A w v a) (hx : Ex w w') : IssAt A w' v a := by
  obtain ⟨b1, b2, vb, vp, h1, h2, h3, h4, h5, h6, h7⟩ := h.is
  exact ⟨⟨b1, b2, vb, vp, h1, h2, h3, h4.ex hx, h5.ex hx, h6.ex hx, h7.ex hx⟩, h.kind⟩
theorem retiA_ok {bill by_ : ByteArray} {day : Int} (h1 : bill.size ≤ maxLen) (h2 : by_.size ≤ maxLen) : StepOk (retiA bill by_ day) := ⟨.inr rfl, ⟨h1, h2, Nat.zero_le _, zeroB_ok⟩⟩
theorem issA_ok {b : BillD} {holder : ByteArray} (h1 : b.Ok) (h2 : holder.size ≤ maxLen) : StepOk (issA b holder) := ⟨.inl rfl, ⟨Nat.zero_le _, Nat.zero_le _, h2, h1⟩⟩
theorem nextB_ok {b : BillD} {number : ByteArray} {boxes parents : List ByteArray} {day : Int} (h : b.Ok) (h1 : number.size ≤ maxLen) (h2 : ∀ x ∈ boxes, x.size ≤ maxLen) (h3 : ∀ x ∈ parents, x.size ≤ maxLen) : (nextB b number boxes parents day).Ok := ⟨h1, h.carrier, h.shipper, h.frm, h.to_, h2, h3⟩
set_option maxHeartbeats 2000000 in
theorem spl_Switch {w : World} {p m k : Nat} {r : RegD} {gs : List GhostE} (hR : Rep w p r m gs) (hG : Good k r) (hk : k + 2 ≤ 1000000) (bill by_ number shipper frm : ByteArray) (day : Int) (h1 : bill.size ≤ maxLen) (h2 : by_.size ≤ maxLen) (h3 : number.size ≤ maxLen) (h4 : shipper.size ≤ maxLen) (h5 : frm.size ≤ maxLen) :
    Ret Tryz.prog 22 [.pointer (some ⟨p, 0, none⟩), .string bill, .string by_, .string number, .string shipper, .string frm, .int .i64 day] w fun u w' => u = .int .i64 (callC r (switchC r bill by_ number shipper frm day)) ∧ Mut w p m gs (callR r (switchC r bill by_ number shipper frm day)) w' := by
  have hfl : ∀ b ∈ foot p m gs, b < w.heap.size := fun b hb => hR.foot_lt hb
  refine ret_of Tryz.func22 Tryz.ntmps22 rfl rfl rfl ?_
  (repeat (first | refine lw_pure hT rfl ?_ | refine lw_nil ?_ | refine cw_seq ?_ | refine cw_region ?_ | refine qw_then ?_))
  refine lw_call hT rfl rfl (reg_Get hR (hG.small (by omega)) bill) ?_
  rintro _ w1 ⟨hget, hx1⟩
  unfold GetR at hget
  cases hat : r.at? bill with
  | none =>
    rw [hat] at hget
    dsimp only at hget
    subst hget
    have e1 : switchC r bill by_ number shipper frm day = (4, []) := by unfold switchC; rw [hat]
    rw [show callC r (switchC r bill by_ number shipper frm day) = 4 from by rw [e1]; rfl, show callR r (switchC r bill by_ number shipper frm day) = r from by rw [e1]; rfl]
    (repeat (refine lw_pure hT rfl ?_))
    refine lw_alloc z33 ?_
    intro b15 w2 hbb2 hb2 hx2 hs2
    skip
    refine lw_store_agg hT rfl rfl rfl rfl (encB_one (A := fun _ => True) (w := w) rfl rfl) hb2 (show (9 : Nat) ≤ 9 by decide) ?_
    intro w3 hb3 hx3 hs3
    have hx13 : Ex w1 w3 := hx2.up_new hx3 (fun i h => by omega)
    (repeat (first | refine lw_pure hT rfl ?_ | refine lw_nil ?_ | refine cw_seq ?_ | refine cw_region ?_ | refine qw_then ?_ | refine cw_ret ?_ | refine qw_then_ret ?_ | (refine cw_cond_t rfl ?_ ?_; focus with_reducible (first | rfl | exact Bool.not_false | exact Bool.not_true))))
    exact qw_ret rfl ⟨rfl, Mut.of_ex hR (hx1.trans hx13)⟩
  | some x =>
    rw [hat] at hget
    obtain ⟨ub, up, rfl, hub, hup⟩ := hget
    obtain ⟨b0, hb0⟩ : ∃ b0, b0 = { x.bill with shipper := shipper, frm := frm } := ⟨_, rfl⟩
    have e1 : switchC r bill by_ number shipper frm day = (0, [retiA bill by_ day, issA (nextB b0 number x.bill.boxes [bill] day) by_]) := by unfold switchC; rw [hat, hb0]
    rw [show callC r (switchC r bill by_ number shipper frm day) = stepsC r [retiA bill by_ day, issA (nextB b0 number x.bill.boxes [bill] day) by_] from by rw [e1]; rfl, show callR r (switchC r bill by_ number shipper frm day) = stepsR r [retiA bill by_ day, issA (nextB b0 number x.bill.boxes [bill] day) by_] from by rw [e1]; rfl]
    obtain ⟨a1, c1, rfl⟩ := own_slice0 hub
    obtain ⟨a2, c2, rfl⟩ := own_slice0 hup
    obtain ⟨hn, ix, hix⟩ := at_some hat
    have hxok := (hG.ent x (List.mem_of_getElem? hix)).ok
    have hbm := (may_len (hG.ent x (List.mem_of_getElem? hix)).may).1
    (repeat (refine lw_pure hT rfl ?_))
    refine lw_alloc z33 ?_
    intro b15 w2 hbb2 hb2 hx2 hs2
    skip
    refine lw_store_agg hT rfl rfl rfl rfl (encB_one (A := fun _ => True) (w := w) rfl rfl) hb2 (show (9 : Nat) ≤ 9 by decide) ?_
    intro w3 hb3 hx3 hs3
    (repeat (first | refine lw_pure hT rfl ?_ | refine lw_nil ?_ | refine cw_seq ?_ | refine cw_region ?_ | refine qw_then ?_ | refine cw_skip ?_ | (refine cw_cond_f rfl ?_ ?_; focus with_reducible (first | rfl | exact Bool.not_false | exact Bool.not_true))))
    refine lw_store (size := 1) hT rfl rfl rfl rfl hb3 (show (2 : Nat) < 9 by decide) ?_
    intro w4 hb4 hx4 hs4
    (repeat (refine lw_pure hT rfl ?_))
    refine lw_store (size := 1) hT rfl rfl rfl rfl hb4 (show (3 : Nat) < 9 by decide) ?_
    intro w5 hb5 hx5 hs5
    replace hb5 : Blk w5 b15 (encB b0 (.slice a1 x.bill.boxes.length c1) (.slice a2 x.bill.parents.length c2)) 33 := by rw [hb0]; exact hb5
    have hx15 : Ex w1 w5 := ((hx2.up_new hx3 (fun i h => by omega)).up_new hx4 (fun i h => by omega)).up_new hx5 (fun i h => by omega)
    have hx05 := hx1.trans hx15
    have hl1 := hx1.size
    have hl05 := hx05.size
    have hub5 := own_ex hub hx15
    have hbx : SlS (fun b => NewIn w.heap.size w5 b) w5 (.slice a1 x.bill.boxes.length c1) x.bill.boxes := sls_own hub5 fun b hb => own_base hub5 hb
    (repeat (first | refine lw_nil ?_ | refine cw_seq ?_ | refine qw_then ?_))
    refine cw_draw hM (fun w' => Ex w5 w') [16] rfl rfl (by repeat with_reducible (first | refine nop_then ?_ | refine nop_block ?_ | exact nop_body)) (fun w6 hx6 _ => ⟨hx6, ?_⟩)
    have hl6 := hx6.size
    (refine rw_takeP 0 rfl rfl (by kernel_rfl) (by kernel_rfl) (by kernel_rfl) (by kernel_rfl) rfl (yo_pure hT rfl) ?_; refine rw_takeP 1 rfl rfl (by kernel_rfl) (by kernel_rfl) (by kernel_rfl) (by kernel_rfl) rfl (yo_pure hT rfl) ?_; refine rw_takeP 2 rfl rfl (by kernel_rfl) (by kernel_rfl) (by kernel_rfl) (by kernel_rfl) rfl (yo_pure hT rfl) ?_; refine rw_takeP 3 rfl rfl (by kernel_rfl) (by kernel_rfl) (by kernel_rfl) (by kernel_rfl) rfl (yo_pure hT rfl) ?_)
    refine rw_take 5 rfl rfl (by kernel_rfl) (by kernel_rfl) (by kernel_rfl) (by kernel_rfl) rfl (yo_load_agg hT rfl rfl rfl (vs := encB b0 (.slice a1 x.bill.boxes.length c1) (.slice a2 x.bill.parents.length c2)) (fun w' hS => (hb5.ex hS).rd 0 9)) ?_
    (refine rw_takeP 6 rfl rfl (by kernel_rfl) (by kernel_rfl) (by kernel_rfl) (by kernel_rfl) rfl (yo_pure hT rfl) ?_; refine rw_takeP 7 rfl rfl (by kernel_rfl) (by kernel_rfl) (by kernel_rfl) (by kernel_rfl) rfl (yo_pure hT rfl) ?_)
    refine rw_take 8 rfl rfl (by kernel_rfl) (by kernel_rfl) (by kernel_rfl) (by kernel_rfl) rfl (yo_load hT rfl rfl (v := .slice a1 x.bill.boxes.length c1) (fun w' hS => (hb5.ex hS).cell 5)) ?_
    (refine rw_takeP 9 rfl rfl (by kernel_rfl) (by kernel_rfl) (by kernel_rfl) (by kernel_rfl) rfl (yo_pure hT rfl) ?_; refine rw_takeP 10 rfl rfl (by kernel_rfl) (by kernel_rfl) (by kernel_rfl) (by kernel_rfl) rfl (yo_pure hT rfl) ?_; refine rw_takeP 13 rfl rfl (by kernel_rfl) (by kernel_rfl) (by kernel_rfl) (by kernel_rfl) rfl (yo_pure hT rfl) ?_)
    refine rw_two 4 11 rfl rfl (by kernel_rfl) rfl rfl (fun hcl => ?_) (fun hcl => ?_)
    · refine lw_call hT rfl rfl (spl_retire bill by_ day w6) ?_
      rintro fv1 w7 ⟨hf1, ho1, hx7⟩
      have hx57 := hx6.trans hx7
      have hl7 := hx7.size
      (repeat (refine lw_nil ?_))
      refine qw_rw (by repeat with_reducible (first | refine nop_then ?_ | refine nop_block ?_ | exact nop_body)) hcl (fun _ => hx57) ?_
      refine rw_one 11 rfl (by kernel_rfl) rfl (fun hcl => ?_)
      refine lw_buildSlice sl31 rfl rfl rfl ?_
      intro bs w8 hbbs hbs hx8 hss
      have hx58 := hx57.trans hx8
      have hl8 := hx8.size
      (repeat (refine lw_nil ?_))
      refine qw_rw (by repeat with_reducible (first | refine nop_then ?_ | refine nop_block ?_ | exact nop_body)) hcl (fun _ => hx58) ?_
      have hpar : SlS (fun b => NewIn w.heap.size w8 b) w8 (.slice (some ⟨bs, 0, none⟩) 1 1) [bill] := Sl.of_rd (rows := [[.string bill]]) ⟨by omega, by omega⟩ (by simp) (hbs.rd 0 1) (show (1 : Nat) ≤ maxLen by decide)
      have hstep1 : RetAt (NewIn w.heap.size w8) w8 fv1 (retiA bill by_ day) := (StepAt_ret hf1 hx8).mono fun b hb => ⟨by have := hb.1; omega, by have := hb.2; omega⟩
      refine rw_one 12 rfl (by kernel_rfl) rfl (fun hcl => ?_)
      refine lw_call hT rfl rfl (spl_next (b := b0) number day x.bill.boxes [bill] w8) ?_
      rintro _ w9 ⟨rfl, hx9⟩
      have hx59 := hx58.trans hx9
      have hl9 := hx9.size
      (repeat (refine lw_nil ?_))
      refine qw_rw (by repeat with_reducible (first | refine nop_then ?_ | refine nop_block ?_ | exact nop_body)) hcl (fun _ => hx59) ?_
      refine rw_one 14 rfl (by kernel_rfl) rfl (fun hcl => ?_)
      have hbx9 : SlS (NewIn w.heap.size w9) w9 (.slice a1 x.bill.boxes.length c1) (nextB b0 number x.bill.boxes [bill] day).boxes := Sl.up (hbx.ex hx59) fun b hb => ⟨hb.1, by have := hb.2; omega⟩
      have hpar9 : SlS (NewIn w.heap.size w9) w9 (.slice (some ⟨bs, 0, none⟩) 1 1) (nextB b0 number x.bill.boxes [bill] day).parents := Sl.up (hpar.ex hx9) fun b hb => ⟨hb.1, by have := hb.2; omega⟩
      refine lw_call hT rfl rfl (spl_issue by_ w9 hbx9 hpar9) ?_
      rintro fv2 w10 ⟨hf2, ho2, hx10⟩
      have hx510 := hx59.trans hx10
      have hl10 := hx10.size
      obtain ⟨q1, q2, q3, e1, _⟩ := hstep1.is
      obtain ⟨q4, q5, _, _, e2, _⟩ := hf2.is
      subst e1
      subst e2
      (repeat (refine lw_nil ?_))
      refine qw_rw (by repeat with_reducible (first | refine nop_then ?_ | refine nop_block ?_ | exact nop_body)) hcl (fun _ => hx510) ?_
      refine rw_one 15 rfl (by kernel_rfl) rfl (fun hcl => ?_)
      refine lw_buildSlice sl98 rfl rfl rfl ?_
      intro bq w11 hbbq hbq hx11 hsq
      have hx511 := hx510.trans hx11
      have hl11 := hx11.size
      (repeat (refine lw_nil ?_))
      refine qw_rw (by repeat with_reducible (first | refine nop_then ?_ | refine nop_block ?_ | exact nop_body)) hcl (fun _ => hx511) ?_
      refine rw_one 16 rfl (by kernel_rfl) rfl (fun hcl => ?_)
      have hb0ok : b0.Ok := by rw [hb0]; exact ⟨hxok.number, hxok.carrier, h4, h5, hxok.to_, hxok.boxes, hxok.parents⟩
      have hsteps : StepsAt (NewIn w.heap.size w11) w11 (.slice (some ⟨bq, 0, none⟩) 2 2) [retiA bill by_ day, issA (nextB b0 number x.bill.boxes [bill] day) by_] := by
        refine ⟨⟨bq, 0, 2, rfl, ⟨by omega, by omega⟩, fun i hi => ?_⟩, show (2 : Nat) ≤ 65 by decide⟩
        match i, hi with
        | 0, _ => exact ⟨_, hbq.rd 0 1, .inl (((StepAt_ret (StepAt_ret (StepAt_ret hstep1 hx9) hx10) hx11)).mono fun b hb => ⟨hb.1, by have := hb.2; omega⟩)⟩
        | 1, _ => exact ⟨_, hbq.rd 1 1, .inr ((StepAt_iss hf2 hx11).mono fun b hb => by rcases hb with hb | hb <;> exact ⟨by have := hb.1; omega, by have := hb.2; omega⟩)⟩
      refine lw_call hT rfl rfl (spl_do ((hR.ex hx05).ex hx511) hG (l := [retiA bill by_ day, issA (nextB b0 number x.bill.boxes [bill] day) by_]) hk hsteps (fun a ha => ?_) (fun b hb => ⟨fun h => by have := hfl b h; have := hb.1; omega, hb.2⟩)) ?_
      · simp only [List.mem_cons, List.not_mem_nil, or_false] at ha
        rcases ha with rfl | rfl
        · exact retiA_ok h1 h2
        · exact issA_ok (nextB_ok hb0ok h3 hxok.boxes (by intro y hy; rw [List.mem_singleton.1 hy]; exact h1)) h2
      rintro _ w12 ⟨rfl, hm⟩
      (repeat (refine lw_nil ?_))
      refine qw_rw (by repeat with_reducible (first | refine nop_then ?_ | refine nop_block ?_ | exact nop_body)) hcl (fun h => absurd h (by decide)) ?_
      (refine rw_takeP 17 rfl rfl (by kernel_rfl) (by kernel_rfl) (by kernel_rfl) (by kernel_rfl) rfl (yo_pure hT rfl) ?_)
      refine rw_done (by kernel_rfl) ?_
      (repeat (first | refine qw_then ?_ | refine cw_ret ?_))
      exact qw_ret rfl ⟨rfl, Mut.step (fun b hb => .inl hb) (Ext.of_ex (hx05.trans hx511)) hm⟩
    · refine lw_buildSlice sl31 rfl rfl rfl ?_
      intro bs w7 hbbs hbs hx7 hss
      have hx57 := hx6.trans hx7
      have hl7 := hx7.size
      (repeat (refine lw_nil ?_))
      refine qw_rw (by repeat with_reducible (first | refine nop_then ?_ | refine nop_block ?_ | exact nop_body)) hcl (fun _ => hx57) ?_
      refine rw_one 4 rfl (by kernel_rfl) rfl (fun hcl => ?_)
      refine lw_call hT rfl rfl (spl_retire bill by_ day w7) ?_
      rintro fv1 w8 ⟨hf1, ho1, hx8⟩
      have hx58 := hx57.trans hx8
      have hl8 := hx8.size
      (repeat (refine lw_nil ?_))
      refine qw_rw (by repeat with_reducible (first | refine nop_then ?_ | refine nop_block ?_ | exact nop_body)) hcl (fun _ => hx58) ?_
      have hpar : SlS (fun b => NewIn w.heap.size w8 b) w8 (.slice (some ⟨bs, 0, none⟩) 1 1) [bill] := Sl.of_rd (rows := [[.string bill]]) ⟨by omega, by omega⟩ (by simp) ((hbs.ex hx8).rd 0 1) (show (1 : Nat) ≤ maxLen by decide)
      have hstep1 : RetAt (NewIn w.heap.size w8) w8 fv1 (retiA bill by_ day) := hf1.mono fun b hb => ⟨by have := hb.1; omega, hb.2⟩
      refine rw_one 12 rfl (by kernel_rfl) rfl (fun hcl => ?_)
      refine lw_call hT rfl rfl (spl_next (b := b0) number day x.bill.boxes [bill] w8) ?_
      rintro _ w9 ⟨rfl, hx9⟩
      have hx59 := hx58.trans hx9
      have hl9 := hx9.size
      (repeat (refine lw_nil ?_))
      refine qw_rw (by repeat with_reducible (first | refine nop_then ?_ | refine nop_block ?_ | exact nop_body)) hcl (fun _ => hx59) ?_
      refine rw_one 14 rfl (by kernel_rfl) rfl (fun hcl => ?_)
      have hbx9 : SlS (NewIn w.heap.size w9) w9 (.slice a1 x.bill.boxes.length c1) (nextB b0 number x.bill.boxes [bill] day).boxes := Sl.up (hbx.ex hx59) fun b hb => ⟨hb.1, by have := hb.2; omega⟩
      have hpar9 : SlS (NewIn w.heap.size w9) w9 (.slice (some ⟨bs, 0, none⟩) 1 1) (nextB b0 number x.bill.boxes [bill] day).parents := Sl.up (hpar.ex hx9) fun b hb => ⟨hb.1, by have := hb.2; omega⟩
      refine lw_call hT rfl rfl (spl_issue by_ w9 hbx9 hpar9) ?_
      rintro fv2 w10 ⟨hf2, ho2, hx10⟩
      have hx510 := hx59.trans hx10
      have hl10 := hx10.size
      obtain ⟨q1, q2, q3, e1, _⟩ := hstep1.is
      obtain ⟨q4, q5, _, _, e2, _⟩ := hf2.is
      subst e1
      subst e2
      (repeat (refine lw_nil ?_))
      refine qw_rw (by repeat with_reducible (first | refine nop_then ?_ | refine nop_block ?_ | exact nop_body)) hcl (fun _ => hx510) ?_
      refine rw_one 15 rfl (by kernel_rfl) rfl (fun hcl => ?_)
      refine lw_buildSlice sl98 rfl rfl rfl ?_
      intro bq w11 hbbq hbq hx11 hsq
      have hx511 := hx510.trans hx11
      have hl11 := hx11.size
      (repeat (refine lw_nil ?_))
      refine qw_rw (by repeat with_reducible (first | refine nop_then ?_ | refine nop_block ?_ | exact nop_body)) hcl (fun _ => hx511) ?_
      refine rw_one 16 rfl (by kernel_rfl) rfl (fun hcl => ?_)
      have hb0ok : b0.Ok := by rw [hb0]; exact ⟨hxok.number, hxok.carrier, h4, h5, hxok.to_, hxok.boxes, hxok.parents⟩
      have hsteps : StepsAt (NewIn w.heap.size w11) w11 (.slice (some ⟨bq, 0, none⟩) 2 2) [retiA bill by_ day, issA (nextB b0 number x.bill.boxes [bill] day) by_] := by
        refine ⟨⟨bq, 0, 2, rfl, ⟨by omega, by omega⟩, fun i hi => ?_⟩, show (2 : Nat) ≤ 65 by decide⟩
        match i, hi with
        | 0, _ => exact ⟨_, hbq.rd 0 1, .inl (((StepAt_ret (StepAt_ret (StepAt_ret hstep1 hx9) hx10) hx11)).mono fun b hb => ⟨hb.1, by have := hb.2; omega⟩)⟩
        | 1, _ => exact ⟨_, hbq.rd 1 1, .inr ((StepAt_iss hf2 hx11).mono fun b hb => by rcases hb with hb | hb <;> exact ⟨by have := hb.1; omega, by have := hb.2; omega⟩)⟩
      refine lw_call hT rfl rfl (spl_do ((hR.ex hx05).ex hx511) hG (l := [retiA bill by_ day, issA (nextB b0 number x.bill.boxes [bill] day) by_]) hk hsteps (fun a ha => ?_) (fun b hb => ⟨fun h => by have := hfl b h; have := hb.1; omega, hb.2⟩)) ?_
      · simp only [List.mem_cons, List.not_mem_nil, or_false] at ha
        rcases ha with rfl | rfl
        · exact retiA_ok h1 h2
        · exact issA_ok (nextB_ok hb0ok h3 hxok.boxes (by intro y hy; rw [List.mem_singleton.1 hy]; exact h1)) h2
      rintro _ w12 ⟨rfl, hm⟩
      (repeat (refine lw_nil ?_))
      refine qw_rw (by repeat with_reducible (first | refine nop_then ?_ | refine nop_block ?_ | exact nop_body)) hcl (fun h => absurd h (by decide)) ?_
      (refine rw_takeP 17 rfl rfl (by kernel_rfl) (by kernel_rfl) (by kernel_rfl) (by kernel_rfl) rfl (yo_pure hT rfl) ?_)
      refine rw_done (by kernel_rfl) ?_
      (repeat (first | refine qw_then ?_ | refine cw_ret ?_))
      exact qw_ret rfl ⟨rfl, Mut.step (fun b hb => .inl hb) (Ext.of_ex (hx05.trans hx511)) hm⟩
end Go.Proofs.YtnglkhnfmbnfeaaGreat
namespace Go.SK
open Go
attribute [local semireducible] CW LW QW Ret Kn
section
variable {P : Program} {T : Tab} {n : Nat} {fr : Fr} {w : World} {Q : Exit → Act → World → Prop} {ops : Array Oper} {rest : List Oper}
theorem findNow_at {k : ByteArray} : ∀ (ents : List MapEntry) (es : List (ByteArray × Value)) (i j : Nat) (u : Value), ents.map (fun e => (e.key, e.val)) = es.map (fun e => (Value.string e.1, e.2)) →
    Instr.findNow .string (.string k) ents i = some (some (j, u)) → ∃ q, j = i + q ∧ es[q]? = some (k, u)
  | [], [], i, j, u, _, h => by simp [Instr.findNow] at h
  | [], _ :: _, _, _, _, h, _ => by simp at h
  | _ :: _, [], _, _, _, h, _ => by simp at h
  | e :: ents, x :: es, i, j, u, h, hf => by
    simp only [List.map_cons, List.cons.injEq, Prod.mk.injEq] at h
    obtain ⟨⟨h1, h2⟩, h3⟩ := h
    have hb : (k == x.1) = decide (k = x.1) := by
      rw [Bool.eq_iff_iff, MapKept.bytes_beq]; simp
    simp only [Instr.findNow, h1, Instr.sameNow, hb] at hf
    by_cases hk : k = x.1
    · rw [decide_eq_true hk] at hf
      simp only [Option.some.injEq, Prod.mk.injEq] at hf
      obtain ⟨rfl, rfl⟩ := hf
      exact ⟨0, rfl, by rw [hk, h2]; rfl⟩
    · rw [decide_eq_false hk] at hf
      obtain ⟨q, g1, g2⟩ := findNow_at (k := k) ents es (i + 1) j u h3 hf
      exact ⟨q + 1, by omega, g2⟩
theorem run_mapUpdate_old {t e b : Nat} {z v u : Value} {es : List (ByteArray × Value)} {ks : ByteArray} (hM : MpT P t e z) (hm : Mp w b es) (hold : mget es ks = some u) :
    ∃ (q : Nat) (w1 : World), es[q]? = some (ks, u) ∧ (Instr.mapUpdate t (.map (some b)) (.string ks) v).run P w = .ok () w1 ∧ Mp w1 b (es.set q (ks, v)) ∧ Ext (· = b) w w1 ∧ w1.heap.size = w.heap.size := by
  obtain ⟨kt, hu, hkt, hz⟩ := hM
  obtain ⟨ents, clock, h1, h2, h3, h4⟩ := hm.is
  obtain ⟨r, g1, g2⟩ := findNow_mget (k := ks) ents.toList es 0 h2
  have hf := MapKept.run_findKey (P := P) (w := w) hkt g1
  rw [hold] at g2
  obtain ⟨⟨j, u'⟩, rfl, hu'⟩ := Option.map_eq_some_iff.1 g2
  have hu' : u' = u := hu'
  subst hu'
  obtain ⟨q, hj, hq⟩ := findNow_at ents.toList es 0 j u' h2 g1
  have hjq : j = q := by omega
  subst hjq
  have hck := fun em => MapKept.run_checkKey (P := P) (w := w) (k := .string ks) hkt trivial em 9999
  have hlt : j < es.length := (List.getElem?_eq_some_iff.1 hq).1
  have hle : ents.toList.length = es.length := by have := congrArg List.length h2; simpa using this
  have hkey : (ents[j]?).map (·.key) = some (.string ks) := by
    have := congrArg (·[j]?) h2
    simp only [List.getElem?_map, hq, Option.map_some] at this
    rw [← Array.getElem?_toList]
    cases he : ents.toList[j]? with
    | none => rw [he] at this; simp at this
    | some en => rw [he] at this; simp only [Option.map_some, Option.some.injEq, Prod.mk.injEq] at this; simp [this.1]
  have hst : (Instr.keyThatStays (.string ks) (.string ks)).run P w = .ok (.string ks) w := by
    have : Instr.sameBits 10000 (.string ks) (.string ks) = true := by
      show (ks == ks) = true
      rw [MapKept.bytes_beq]
    simp [Instr.keyThatStays, this]
  refine ⟨j, { w with heap := w.heap.setIfInBounds b (.map (ents.modify j fun e => { e with key := .string ks, val := v }) clock) }, hq, ?_, ⟨_, _, (MapKept.heap_set h1).1, ?_, ?_, ?_⟩, ⟨rfl, rfl, rfl, by simp, fun k _ hn => (MapKept.heap_set h1).2 k hn⟩, by simp⟩
  · simp only [Instr.mapUpdate, Sem.run_bind, run_underlying hu, Result.andThen_ok, MapKept.run_getObj_map h1, hck, hf, hkey, Option.getD_some, hst, MapKept.run_setObj_map _ h1]
  · apply List.ext_getElem?
    intro i
    have hi := congrArg (·[i]?) h2
    simp only [List.getElem?_map] at hi ⊢
    rw [Array.toList_modify, List.getElem?_modify, List.getElem?_set]
    by_cases hij : j = i
    · subst hij
      have hil : j < ents.toList.length := by omega
      simp [hlt, List.getElem?_eq_getElem hil]
    · simp only [if_neg hij]
      simpa using hi
  · rw [List.length_set, ← h3]
    apply List.ext_getElem?
    intro i
    simp only [List.getElem?_map]
    rw [Array.toList_modify, List.getElem?_modify]
    by_cases hij : j = i
    · subst hij
      have hil : j < ents.toList.length := by omega
      simp [List.getElem?_eq_getElem hil]
    · simp [hij]
  · simp [h4]
theorem lw_mapUpdate_old {t e b : Nat} {z v u0 : Value} {es : List (ByteArray × Value)} {ks : ByteArray} {x y u : Operand} {ty : TypeId} {ps : String} {af : Array Edge} (hM : MpT P t e z) (hx : ev n fr x = some (.map (some b))) (hy : ev n fr y = some (.string ks)) (hv : ev n fr u = some v)
    (hm : Mp w b es) (hold : mget es ks = some u0) (k : ∀ (q : Nat) w1, es[q]? = some (ks, u0) → Mp w1 b (es.set q (ks, v)) → Ext (· = b) w w1 → w1.heap.size = w.heap.size → LW P ops Q rest n fr w1) :
    LW P ops Q ({ dst := none, op := .mapUpdate t x y u, type := ty, pos := ps, after := af, guard := none } :: rest) n fr w := by
  obtain ⟨q, w1, g0, g1, g2, g3, g4⟩ := run_mapUpdate_old (P := P) (v := v) hM hm hold
  exact lw_run_skip rfl rfl (w' := w1) (fun a hk => by simp [execOp, ev_sound hk hx, ev_sound hk hy, ev_sound hk hv, g1]) (k q w1 g0 g2 g3 g4)
end
end Go.SK
namespace Go.Proofs.YtnglkhnfmbnfeaaGreat
open Go Go.SK
theorem perm_of_mem {a b : List ByteArray} (ha : a.Nodup) (hb : b.Nodup) (h : ∀ x, x ∈ a ↔ x ∈ b) : a.Perm b := by
  induction a generalizing b with
  | nil =>
    cases b with
    | nil => exact List.Perm.refl _
    | cons x b => have := (h x).2 (by simp); simp at this
  | cons x a ih =>
    obtain ⟨h1, h2⟩ := List.nodup_cons.1 ha
    obtain ⟨s, t, rfl⟩ := List.append_of_mem ((h x).1 (by simp))
    have hp : (s ++ x :: t).Perm (x :: (s ++ t)) := List.perm_middle
    have hn := (hp.nodup_iff).1 hb
    obtain ⟨h3, h4⟩ := List.nodup_cons.1 hn
    refine (List.Perm.cons x (ih h2 h4 fun y => ?_)).trans hp.symm
    have hy := h y
    rw [hp.mem_iff] at hy
    simp only [List.mem_cons] at hy
    constructor
    · intro hm
      rcases hy.1 (.inr hm) with rfl | h
      · exact absurd hm h1
      · exact h
    · intro hm
      rcases hy.2 (.inr hm) with rfl | h
      · exact absurd hm h3
      · exact h
theorem len_nodup {s l : List ByteArray} (hs : s.Nodup) (h : ∀ x, x ∈ s ↔ x ∈ l) : s.length = l.length ↔ l.Nodup := by
  constructor
  · intro hl
    exact (nodup_perm hs (fun x hx => (h x).1 hx) hl).nodup_iff.1 hs
  · intro hl
    exact (perm_of_mem hs hl h).length_eq
theorem seen_in {s : List ByteArray} {x : ByteArray} (hx : x ∈ s) : mget (s.map fun y => (y, Value.bool true)) x = some (.bool true) := by
  induction s with
  | nil => simp at hx
  | cons a s ih =>
    rw [List.map_cons, mget_cons]
    by_cases h : x = a
    · rw [if_pos h]
    · rw [if_neg h]
      rcases List.mem_cons.1 hx with h' | h'
      · exact absurd h' h
      · exact ih h'
theorem seen_not {s : List ByteArray} {x : ByteArray} (hx : x ∉ s) : mget (s.map fun y => (y, Value.bool true)) x = none := by
  induction s with
  | nil => rfl
  | cons a s ih =>
    rw [List.map_cons, mget_cons, if_neg (fun h => hx (by simp [h]))]
    exact ih fun h => hx (List.mem_cons_of_mem _ h)
theorem spl_unlike {A : Nat → Prop} {w : World} {v : Value} {l : List ByteArray} (hS : SlS A w v l) : Ret Tryz.prog 41 [v] w fun u w' => u = .bool (decide l.Nodup) ∧ Ex w w' := by
  obtain ⟨a, c, rfl, _, hr⟩ := hS.is
  have hsm := hS.small
  simp only [List.length_map] at *
  unfold maxLen at hsm
  refine ret_of Tryz.func41 Tryz.ntmps41 rfl rfl rfl ?_
  (repeat (first | refine lw_pure hT rfl ?_ | refine lw_nil ?_ | refine cw_seq ?_ | refine cw_region ?_ | refine qw_then ?_))
  refine lw_makeMap ?_
  intro b w1 hbb hm1 hx1 hs1
  (repeat (first | refine lw_pure hT rfl ?_ | refine lw_nil ?_ | refine cw_seq ?_ | refine cw_region ?_ | refine qw_then ?_ | refine cw_block ?_))
  refine cw_loop (fun i : Nat => [(0, .slice a l.length c), (3, .map (some b)), (7, .slice a l.length c), (8, .int .i64 (l.length : Nat)), (9, .int .i64 (i : Nat))])
    (fun i w' => i ≤ l.length ∧ Ex w w' ∧ ∃ s : List ByteArray, Mp w' b (s.map fun y => (y, Value.bool true)) ∧ s.Nodup ∧ ∀ x, x ∈ s ↔ x ∈ l.take i) (fun i => l.length - i) 0 (by repeat (first | exact trivial | refine ⟨rfl, ?_⟩)) ⟨Nat.zero_le _, hx1, [], hm1, List.nodup_nil, fun x => by simp⟩ ?_
  rintro i w2 ⟨hi, hx2, s, hm2, hsn, hmem⟩
  (repeat (first | refine lw_pure hT rfl ?_ | refine lw_nil ?_ | refine cw_seq ?_ | refine cw_region ?_ | refine qw_then ?_))
  refine cw_cond rfl (fun e => ?_) (fun e => ?_)
  · have hlt : i < l.length := by have := of_decide_eq_true e; omega
    have hne : l.map (fun s => [Value.string s]) ≠ [] := by intro e; simp at e; rw [e] at hlt; simp at hlt
    obtain ⟨bb, oo, rfl, _, hrd⟩ := hr hne
    have hri := (hrd i [.string l[i]] (by simp [hlt])).2.ex hx2
    obtain ⟨x, hx⟩ : ∃ x, x = l[i] := ⟨_, rfl⟩
    rw [← hx] at hri
    have etake : l.take (i + 1) = l.take i ++ [x] := by rw [List.take_succ_eq_append_getElem hlt, hx]
    (repeat (first | refine cw_seq ?_ | refine cw_region ?_ | refine qw_then ?_ | refine cw_skip ?_ | refine cw_block ?_))
    refine lw_index hT rfl rfl rfl i rfl hlt ?_
    skip
    refine lw_load hT rfl rfl (v := .string x) (hri 0 _ rfl) ?_
    (repeat (first | refine lw_pure hT rfl ?_ | refine lw_nil ?_ | refine cw_region ?_ | refine qw_then ?_))
    by_cases hxs : x ∈ s
    · refine lw_mapUpdate_old mp111 rfl rfl rfl hm2 (seen_in hxs) ?_
      intro q w3 hq hm3 hx3 hs3
      have eset : (s.map fun y => (y, Value.bool true)).set q (x, .bool true) = s.map fun y => (y, Value.bool true) := by
        obtain ⟨hql, hqe⟩ := List.getElem?_eq_some_iff.1 hq
        rw [← hqe, List.set_getElem_self]
      rw [eset] at hm3
      (repeat (first | (refine lw_add rfl rfl ?_ ?_ ?_; iterate 2 omega) | refine lw_pure hT rfl ?_ | refine lw_nil ?_ | refine cw_region ?_ | refine qw_then ?_ | refine qw_block ?_))
      refine qw_round (i + 1) (by repeat (first | exact trivial | refine ⟨rfl, ?_⟩)) ⟨hlt, hx2.up_new hx3 (fun j hj => by omega), s, hm3, hsn, fun y => ?_⟩ (by omega)
      rw [etake, List.mem_append, ← hmem y, List.mem_singleton]
      exact ⟨.inl, fun h => h.elim id fun h => h ▸ hxs⟩
    · refine lw_mapUpdate mp111 rfl rfl rfl hm2 (seen_not hxs) ?_
      intro w3 hm3 hx3 hs3
      (repeat (first | (refine lw_add rfl rfl ?_ ?_ ?_; iterate 2 omega) | refine lw_pure hT rfl ?_ | refine lw_nil ?_ | refine cw_region ?_ | refine qw_then ?_ | refine qw_block ?_))
      refine qw_round (i + 1) (by repeat (first | exact trivial | refine ⟨rfl, ?_⟩)) ⟨hlt, hx2.up_new hx3 (fun j hj => by omega), s ++ [x], by simpa using hm3, ?_, fun y => ?_⟩ (by omega)
      · exact ((List.perm_append_comm).nodup_iff).2 (List.nodup_cons.2 ⟨hxs, hsn⟩)
      · rw [etake, List.mem_append, List.mem_append, hmem y]
  · have hil : i = l.length := by have := of_decide_eq_false e; omega
    subst hil
    rw [List.take_length] at hmem
    (repeat (first | refine lw_pure hT rfl ?_ | refine cw_seq ?_ | refine cw_region ?_ | refine qw_then ?_ | refine cw_exit ?_ | refine qw_block_exit ?_ | refine qw_then_exit ?_))
    refine lw_maplen mp111 rfl hm2 ?_
    (repeat (first | refine lw_pure hT rfl ?_ | refine lw_nil ?_ | refine qw_then ?_ | refine cw_ret ?_))
    refine qw_ret rfl ⟨?_, hx2⟩
    have := len_nodup hsn hmem
    show Value.bool _ = Value.bool _
    congr 1
    rw [decide_eq_decide, ← this, List.length_map]
    omega
end Go.Proofs.YtnglkhnfmbnfeaaGreat
namespace Go.Proofs.YtnglkhnfmbnfeaaGreat
open Go Go.SK
theorem take_all_eq {l l' : List ByteArray} (hl : l.length = l'.length) (h : ∀ i (h1 : i < l.length) (h2 : i < l'.length), l[i] = l'[i]) : l = l' := List.ext_getElem hl h
set_option maxHeartbeats 1000000 in
theorem sl_Equal {A B : Nat → Prop} {w : World} {v u : Value} {l l' : List ByteArray} (hS : SlS A w v l) (hS' : SlS B w u l') : Ret Tryz.prog 89 [v, u] w fun x w' => x = .bool (decide (l = l')) ∧ Ex w w' := by
  obtain ⟨a, c, rfl, _, hr⟩ := hS.is
  obtain ⟨a', c', rfl, _, hr'⟩ := hS'.is
  have hsm := hS.small
  have hsm' := hS'.small
  simp only [List.length_map] at *
  unfold maxLen at hsm hsm'
  refine ret_of Tryz.func89 Tryz.ntmps89 rfl rfl rfl ?_
  (repeat (first | refine lw_pure hT rfl ?_ | refine lw_nil ?_ | refine cw_seq ?_ | refine cw_region ?_ | refine qw_then ?_))
  refine cw_cond rfl (fun e => ?_) (fun e => ?_)
  · have hne : ¬ l.length = l'.length := by have := of_decide_eq_true e; omega
    (repeat (first | refine lw_pure hT rfl ?_ | refine lw_nil ?_ | refine cw_seq ?_ | refine cw_region ?_ | refine qw_then ?_ | refine cw_ret ?_ | refine qw_then_ret ?_))
    exact qw_ret rfl ⟨by rw [decide_eq_false (fun h => hne (by rw [h]))]; rfl, Ext.refl _ _⟩
  have hlen : l.length = l'.length := by have := of_decide_eq_false e; omega
  (repeat (first | refine lw_pure hT rfl ?_ | refine lw_nil ?_ | refine cw_seq ?_ | refine cw_region ?_ | refine qw_then ?_ | refine cw_skip ?_ | refine cw_block ?_))
  refine cw_loop (fun i : Nat => [(0, .slice a l.length c), (1, .slice a' l'.length c'), (12, .int .i64 (l.length : Nat)), (13, .int .i64 (i : Nat))])
    (fun i w' => i ≤ l.length ∧ Ex w w' ∧ ∀ j (h1 : j < l.length) (h2 : j < l'.length), j < i → l[j] = l'[j]) (fun i => l.length - i) 0 (by repeat (first | exact trivial | refine ⟨rfl, ?_⟩)) ⟨Nat.zero_le _, Ext.refl _ _, fun j _ _ h => by omega⟩ ?_
  rintro i w2 ⟨hi, hx2, heq⟩
  (repeat (first | refine lw_pure hT rfl ?_ | refine lw_nil ?_ | refine cw_seq ?_ | refine cw_region ?_ | refine qw_then ?_))
  refine cw_cond rfl (fun e => ?_) (fun e => ?_)
  · have hlt : i < l.length := by have := of_decide_eq_true e; omega
    have hlt' : i < l'.length := by omega
    have hne : l.map (fun s => [Value.string s]) ≠ [] := by intro e; simp at e; rw [e] at hlt; simp at hlt
    have hne' : l'.map (fun s => [Value.string s]) ≠ [] := by intro e; simp at e; rw [e] at hlt'; simp at hlt'
    obtain ⟨b, o, rfl, _, hrd⟩ := hr hne
    obtain ⟨b', o', rfl, _, hrd'⟩ := hr' hne'
    have r1 : ∀ w' : World, Ex w w' → w'.cell? ⟨b, o + i * 1, none⟩ = some (.string l[i]) := fun w' hx => by
      have := ((hrd i [.string l[i]] (by simp [hlt])).2.ex hx) 0 _ rfl
      exact this
    have r2 : ∀ w' : World, Ex w w' → w'.cell? ⟨b', o' + i * 1, none⟩ = some (.string l'[i]) := fun w' hx => by
      have := ((hrd' i [.string l'[i]] (by simp [hlt'])).2.ex hx) 0 _ rfl
      exact this
    (repeat (first | refine lw_pure hT rfl ?_ | refine lw_nil ?_ | refine cw_seq ?_ | refine cw_region ?_ | refine qw_then ?_ | refine cw_skip ?_ | refine cw_block ?_))
    refine cw_draw hM (fun w' => Ex w2 w') [] rfl rfl (by repeat with_reducible (first | refine nop_then ?_ | refine nop_block ?_ | exact nop_body)) (fun w3 hx3 _ => ⟨hx3, ?_⟩)
    (refine rw_takeP 0 rfl rfl (by kernel_rfl) (by kernel_rfl) (by kernel_rfl) (by kernel_rfl) rfl (yo_pure hT rfl) ?_; refine rw_takeP 1 rfl rfl (by kernel_rfl) (by kernel_rfl) (by kernel_rfl) (by kernel_rfl) rfl (yo_pure hT rfl) ?_)
    refine rw_takeP 2 rfl rfl (by kernel_rfl) (by kernel_rfl) (by kernel_rfl) (by kernel_rfl) rfl (yo_index hT rfl rfl rfl i rfl hlt) ?_
    refine rw_take 3 rfl rfl (by kernel_rfl) (by kernel_rfl) (by kernel_rfl) (by kernel_rfl) rfl (yo_load hT rfl rfl (v := .string l[i]) (fun w' hS => r1 w' (hx2.trans hS))) ?_
    (refine rw_takeP 4 rfl rfl (by kernel_rfl) (by kernel_rfl) (by kernel_rfl) (by kernel_rfl) rfl (yo_pure hT rfl) ?_; refine rw_takeP 5 rfl rfl (by kernel_rfl) (by kernel_rfl) (by kernel_rfl) (by kernel_rfl) rfl (yo_pure hT rfl) ?_)
    refine rw_takeP 6 rfl rfl (by kernel_rfl) (by kernel_rfl) (by kernel_rfl) (by kernel_rfl) rfl (yo_index hT rfl rfl rfl i rfl hlt') ?_
    refine rw_take 7 rfl rfl (by kernel_rfl) (by kernel_rfl) (by kernel_rfl) (by kernel_rfl) rfl (yo_load hT rfl rfl (v := .string l'[i]) (fun w' hS => r2 w' (hx2.trans hS))) ?_
    (refine rw_takeP 8 rfl rfl (by kernel_rfl) (by kernel_rfl) (by kernel_rfl) (by kernel_rfl) rfl (yo_pure hT rfl) ?_)
    refine rw_done (by kernel_rfl) ?_
    (repeat (refine qw_then ?_))
    refine cw_cond rfl (fun e => ?_) (fun e => ?_)
    · have hne : l[i] ≠ l'[i] := of_decide_eq_true e
      (repeat (first | refine lw_pure hT rfl ?_ | refine lw_nil ?_ | refine cw_seq ?_ | refine cw_region ?_ | refine qw_then ?_ | refine cw_ret ?_ | refine qw_then_ret ?_ | refine qw_block_ret ?_))
      exact qw_ret rfl ⟨by rw [decide_eq_false (fun h => hne (by subst h; rfl))]; rfl, hx2.trans hx3⟩
    · have he : l[i] = l'[i] := by have := of_decide_eq_false e; exact Decidable.not_not.1 this
      (repeat (first | (refine lw_add rfl rfl ?_ ?_ ?_; iterate 2 omega) | refine lw_pure hT rfl ?_ | refine lw_nil ?_ | refine cw_region ?_ | refine qw_then ?_ | refine cw_skip ?_ | refine qw_block ?_))
      refine qw_round (i + 1) (by repeat (first | exact trivial | refine ⟨rfl, ?_⟩)) ⟨hlt, hx2.trans hx3, fun j h1 h2 hj => ?_⟩ (by omega)
      rcases Nat.lt_or_ge j i with h | h
      · exact heq j h1 h2 h
      · have : j = i := by omega
        subst this; exact he
  · have hil : i = l.length := by have := of_decide_eq_false e; omega
    subst hil
    (repeat (first | refine lw_pure hT rfl ?_ | refine lw_nil ?_ | refine cw_seq ?_ | refine cw_region ?_ | refine qw_then ?_ | refine cw_ret ?_ | refine cw_exit ?_ | refine qw_block_exit ?_ | refine qw_then_exit ?_))
    exact qw_ret rfl ⟨by rw [decide_eq_true (take_all_eq hlen fun j h1 h2 => heq j h1 h2 h1)]; rfl, hx2⟩
end Go.Proofs.YtnglkhnfmbnfeaaGreat
namespace Go.SK
open Go
attribute [local semireducible] CW LW QW Ret Kn
section
variable {P : Program} {T : Tab} {n : Nat} {fr : Fr} {w : World} {Q : Exit → Act → World → Prop} {ops : Array Oper} {rest : List Oper}
theorem run_append_make {t u ty e size bytes m : Nat} (hS : SlT P t e size bytes) (hu : P.underlying u = some (.int .i64)) (h0 : 0 < m) (hm : m ≤ maxLen) (hb : m * bytes ≤ 140737488355328) :
    ∃ cap w1, (Builtin.append_ #[t, u] ty #[.slice none 0 0, .int .i64 (m : Nat)]).run P w = .ok (.slice (some ⟨w.heap.size, 0, none⟩) m cap) w1 ∧ w1.ownsRow w.heap.size e size (.slice (some ⟨w.heap.size, 0, none⟩) 0 cap) 0 [] ∧ m ≤ cap ∧ Ex w w1 ∧ w1.heap.size = w.heap.size + 1 := by
  obtain ⟨ht, i, z, hi, hz, hs, hby, hzs⟩ := hS
  unfold maxLen at hm
  have hn : m ≠ 0 := by omega
  have h63' : ¬ (9223372036854775807 < (m : Int)) := by omega
  have h48' : ¬ (281474976710656 < Builtin.nextslicecap m 0 * i.bytes) := by rw [nextslicecap_zero h0, hby]; omega
  have h48 : ¬ ((281474976710656 : Int) < (m : Int) * (i.bytes : Int)) := by
    rw [hby]
    intro h
    have h9 : (281474976710656 : Int) < ((m * bytes : Nat) : Int) := by rw [Int.natCast_mul]; exact h
    have h10 := Int.ofNat_lt.1 h9
    omega
  have hw : IntKind.i64.wrap (m : Int) = m := IntWalk.i64_in _ ⟨by omega, by omega⟩
  have hneg : ¬ ((m : Int) < 0) := by omega
  have hge := grownCap_ge w m 0 e
  have hcm := grownCap_le_maxLen w m 0 e (by unfold maxLen; omega)
  have key : (Builtin.append_ #[t, u] ty #[.slice none 0 0, .int .i64 (m : Nat)]).run P w = .ok (.slice (some ⟨w.heap.size, 0, none⟩) m (grownCap w m 0 e))
      (w.drew.alloc (.cells (Builtin.zeroCells z.cells m ++ Builtin.zeroCells z.cells (grownCap w m 0 e - m)) e)) := by
    simp [Builtin.append_, run_underlying ht, run_underlying hu, sizeOf, typeInfo, zeroValue, hi, hz, Builtin.lenOf, Builtin.firstCells, hn, h63', h48', h48, hw, hneg, asInt, asIntOf, Question.forced, newRow, grownCap]
    intro h
    rw [hs] at h
    have h9 : Builtin.zeroCells z.cells m = #[] := by unfold Builtin.zeroCells; rw [hzs, h]; simp
    rw [h9]; simp
  refine ⟨_, _, key, ⟨by simp, .inr ⟨w.heap.size, _, _, rfl, Nat.le_refl _, heap_alloc_new w.drew _, Nat.zero_le _, hcm, ?_, by simp⟩⟩, hge, (Ext.drawn w _).trans (Ext.alloc _ _), by simp⟩
  simp only [Array.size_append, size_zeroCells, hzs, ← Nat.add_mul]
  congr 1
  omega
theorem lw_cap (hT : TabOk P T) {d t size len cap : Nat} {p : Option Addr} {x : Operand} {ty : TypeId} {ps : String} {af : Array Edge} (hx : ev n fr x = some (.slice p len cap)) (ht : look T.sls t = some size)
    (k : LW P ops Q rest n ((d, .int .i64 (cap : Nat)) :: fr) w) :
    LW P ops Q ({ dst := some d, op := .call ⟨.builtin .cap, #[x], #[t]⟩, type := ty, pos := ps, after := af, guard := none } :: rest) n fr w := by
  obtain ⟨e, inf, hu, hi, hs⟩ := hT.sl ht
  exact lw_run rfl rfl (fun a hk => by simp [execOp, resolve, invoke, builtin, Builtin.cap_, ev_sound hk hx, run_underlying hu, goInt]) k
theorem lw_append_make {d t u e size bytes m : Nat} {x y : Operand} {ty : TypeId} {ps : String} {af : Array Edge} (hS : SlT P t e size bytes) (hu : P.underlying u = some (.int .i64)) (hx : ev n fr x = some (.slice none 0 0)) (hy : ev n fr y = some (.int .i64 (m : Nat)))
    (h0 : 0 < m) (hm : m ≤ maxLen) (hb : m * bytes ≤ 140737488355328)
    (k : ∀ cap w1, w1.ownsRow w.heap.size e size (.slice (some ⟨w.heap.size, 0, none⟩) 0 cap) 0 [] → m ≤ cap → Ex w w1 → w1.heap.size = w.heap.size + 1 → LW P ops Q rest n ((d, .slice (some ⟨w.heap.size, 0, none⟩) m cap) :: fr) w1) :
    LW P ops Q ({ dst := some d, op := .call ⟨.builtin .append, #[x, y], #[t, u]⟩, type := ty, pos := ps, after := af, guard := none } :: rest) n fr w := by
  obtain ⟨cap, w1, g1, g2, g3, g4, g5⟩ := run_append_make (P := P) (w := w) (ty := ty) hS hu h0 hm hb
  exact lw_run rfl rfl (w' := w1) (fun a hk => by simp [execOp, resolve, invoke, builtin, ev_sound hk hx, ev_sound hk hy, g1]) (k cap w1 g2 g3 g4 g5)
end
end Go.SK
namespace Go.Proofs.YtnglkhnfmbnfeaaGreat
open Go Go.SK
theorem sl_Grow {m : Nat} (w : World) (hm : m * 16 ≤ 140737488355328) : Ret Tryz.prog 133 [.slice none 0 0, .int .i64 (m : Nat)] w fun v w' => w'.ownsRow w.heap.size 9 1 v 0 [] ∧ Ex w w' := by
  refine ret_of Tryz.func133 Tryz.ntmps133 rfl rfl rfl ?_
  (repeat (first | refine lw_pure hT rfl ?_ | refine lw_nil ?_ | refine cw_seq ?_ | refine cw_region ?_ | refine qw_then ?_))
  refine cw_cond rfl (fun e => by have := of_decide_eq_true e; omega) (fun _ => ?_)
  (repeat (first | refine lw_pure hT rfl ?_ | refine cw_seq ?_ | refine cw_region ?_ | refine qw_then ?_ | refine cw_skip ?_))
  refine lw_cap hT rfl rfl ?_
  (repeat (first | (refine lw_sub rfl rfl ?_ ?_ ?_; iterate 2 omega) | refine lw_pure hT rfl ?_ | refine lw_nil ?_ | refine cw_seq ?_ | refine cw_region ?_ | refine qw_then ?_))
  have e0 : ((m : Nat) : Int) - (((0 : Nat) : Int) - ((0 : Nat) : Int)) = ((m : Nat) : Int) := by omega
  rw [e0]
  refine cw_cond rfl (fun e => ?_) (fun e => ?_)
  · have h0 : 0 < m := by have := of_decide_eq_true e; omega
    (repeat (first | refine lw_pure hT rfl ?_ | refine cw_region ?_))
    refine lw_cap hT rfl rfl ?_
    skip
    refine lw_slice_sl hT rfl rfl rfl rfl 0 0 rfl rfl (Nat.le_refl _) (Nat.le_refl _) ?_
    (repeat (refine lw_pure hT rfl ?_))
    refine lw_append_make sl31 (by kernel_rfl) rfl rfl h0 (by unfold maxLen; omega) hm ?_
    intro cap w1 h1 h2 h3 h4
    (repeat (refine lw_pure hT rfl ?_))
    refine lw_slice_sl hT rfl rfl rfl rfl 0 0 rfl rfl (Nat.le_refl _) (Nat.zero_le _) ?_
    (repeat (first | refine lw_pure hT rfl ?_ | refine lw_nil ?_ | refine cw_seq ?_ | refine cw_region ?_ | refine qw_then ?_ | refine cw_ret ?_))
    refine qw_ret rfl ⟨?_, h3⟩
    have hc : ¬ cap = 0 := by omega
    simpa [hc, oneOr, Addr.add] using h1
  · (repeat (first | refine lw_pure hT rfl ?_ | refine lw_nil ?_ | refine cw_seq ?_ | refine cw_region ?_ | refine qw_then ?_ | refine cw_ret ?_ | refine cw_skip ?_))
    exact qw_ret rfl ⟨⟨rfl, .inl ⟨rfl, rfl⟩⟩, Ext.refl _ _⟩
end Go.Proofs.YtnglkhnfmbnfeaaGreat
namespace Go.Proofs.YtnglkhnfmbnfeaaGreat
open Go Go.SK
structure SlsAt (A : Nat → Prop) (w : World) (v : Value) (ps : List (List ByteArray)) : Prop where
  is : ∃ p cap, v = .slice p ps.length cap ∧ ∀ i (hi : i < ps.length), ∃ b o u, p = some ⟨b, o, none⟩ ∧ A b ∧ Rd w b (o + i * 1) [u] ∧ SlS A w u ps[i]
  small : ps.length ≤ maxLen
  zero : ∀ p n c, v = .slice p n c → p = none → c = 0
theorem SlsAt.ext {A F : Nat → Prop} {w w' : World} {v : Value} {ps : List (List ByteArray)} (h : SlsAt A w v ps) (hx : Ext F w w') (hn : ∀ b, A b → ¬ F b) : SlsAt A w' v ps := by
  obtain ⟨p, cap, h1, h2⟩ := h.is
  refine ⟨⟨p, cap, h1, fun i hi => ?_⟩, h.small, h.zero⟩
  obtain ⟨b, o, u, e1, e2, e3, e4⟩ := h2 i hi
  exact ⟨b, o, u, e1, e2, e3.ext hx (hn b e2), e4.ext hx hn⟩
theorem SlsAt.ex {A : Nat → Prop} {w w' : World} {v : Value} {ps : List (List ByteArray)} (h : SlsAt A w v ps) (hx : Ex w w') : SlsAt A w' v ps := h.ext hx fun _ _ f => f
theorem flat_take {ps : List (List ByteArray)} {i : Nat} (hi : i < ps.length) : (ps.take (i + 1)).flatten = (ps.take i).flatten ++ ps[i] := by
  rw [List.take_succ_eq_append_getElem hi, List.flatten_append]; simp
theorem flat_le (ps : List (List ByteArray)) (i : Nat) : (ps.take i).flatten.length ≤ ps.flatten.length := by
  have := congrArg List.flatten (List.take_append_drop i ps)
  rw [List.flatten_append] at this
  rw [← this, List.length_append]; omega
set_option maxHeartbeats 1000000 in
theorem sl_Concat {A : Nat → Prop} {w : World} {v : Value} {ps : List (List ByteArray)} (hS : SlsAt A w v ps) (hb : ps.flatten.length * 16 ≤ 140737488355328) :
    Ret Tryz.prog 91 [v] w fun u w' => w'.ownsRow w.heap.size 9 1 u ps.flatten.length (ps.flatten.map Value.string) ∧ Ex w w' := by
  obtain ⟨p, cap, rfl, hrow⟩ := hS.is
  have hsm := hS.small
  unfold maxLen at hsm
  refine ret_of Tryz.func91 Tryz.ntmps91 rfl rfl rfl ?_
  (repeat (first | refine lw_pure hT rfl ?_ | refine lw_nil ?_ | refine cw_seq ?_ | refine cw_region ?_ | refine qw_then ?_ | refine cw_block ?_))
  refine cw_loop (fun i : Nat => [(0, .slice p ps.length cap), (3, .int .i64 ((ps.take i).flatten.length : Nat)), (9, .slice p ps.length cap), (10, .int .i64 (ps.length : Nat)), (11, .int .i64 (i : Nat))]) (fun i w' => i ≤ ps.length ∧ Ex w w') (fun i => ps.length - i) 0 (by repeat (first | exact trivial | refine ⟨rfl, ?_⟩)) ⟨Nat.zero_le _, Ext.refl _ _⟩ ?_
  rintro i w1 ⟨hi, hx1⟩
  have hfl := flat_le ps i
  (repeat (first | refine lw_pure hT rfl ?_ | refine lw_nil ?_ | refine cw_seq ?_ | refine cw_region ?_ | refine qw_then ?_))
  refine cw_cond rfl (fun e => ?_) (fun e => ?_)
  · have hlt : i < ps.length := by have := of_decide_eq_true e; omega
    obtain ⟨b, o, u, rfl, _, hrd, hu⟩ := hrow i hlt
    obtain ⟨a2, c2, rfl, _, _⟩ := hu.is
    have hfl2 := flat_le ps (i + 1)
    rw [flat_take hlt, List.length_append] at hfl2
    simp only [List.length_map] at *
    (repeat (first | refine cw_seq ?_ | refine cw_region ?_ | refine qw_then ?_ | refine cw_skip ?_ | refine cw_block ?_))
    refine lw_index hT rfl rfl rfl i rfl hlt ?_
    skip
    refine lw_load hT rfl rfl (v := .slice a2 ps[i].length c2) ((hrd.ex hx1) 0 _ rfl) ?_
    (repeat (first | (refine lw_add rfl rfl ?_ ?_ ?_; iterate 2 omega) | refine lw_pure hT rfl ?_ | refine lw_nil ?_ | refine cw_seq ?_ | refine cw_region ?_ | refine qw_then ?_))
    refine cw_cond rfl (fun e => by have := of_decide_eq_true e; omega) (fun _ => ?_)
    have es : (((ps.take i).flatten.length : Nat) : Int) + ((ps[i].length : Nat) : Int) = (((ps.take (i + 1)).flatten.length : Nat) : Int) := by rw [flat_take hlt, List.length_append]; omega
    rw [es]
    (repeat (first | (refine lw_add rfl rfl ?_ ?_ ?_; iterate 2 omega) | refine lw_pure hT rfl ?_ | refine lw_nil ?_ | refine cw_region ?_ | refine qw_then ?_ | refine cw_skip ?_ | refine qw_block ?_))
    exact qw_round (i + 1) (by repeat (first | exact trivial | refine ⟨rfl, ?_⟩)) ⟨hlt, hx1⟩ (by omega)
  · have hil : i = ps.length := by have := of_decide_eq_false e; omega
    subst hil
    rw [List.take_length]
    (repeat (first | refine lw_pure hT rfl ?_ | refine cw_seq ?_ | refine cw_region ?_ | refine qw_then ?_ | refine cw_exit ?_ | refine qw_block_exit ?_ | refine qw_then_exit ?_))
    refine lw_call hT rfl rfl (sl_Grow w1 hb) ?_
    rintro v2 w2 ⟨hown, hx2⟩
    have hx02 := hx1.trans hx2
    (repeat (first | refine lw_pure hT rfl ?_ | refine lw_nil ?_ | refine cw_seq ?_ | refine cw_region ?_ | refine qw_then ?_ | refine cw_block ?_))
    refine cw_loop (fun z : Nat × Value => [(6, z.2), (25, .slice p ps.length cap), (26, .int .i64 (ps.length : Nat)), (27, .int .i64 (z.1 : Nat))])
      (fun z w' => z.1 ≤ ps.length ∧ Ex w w' ∧ w'.ownsRow w.heap.size 9 1 z.2 (ps.take z.1).flatten.length ((ps.take z.1).flatten.map Value.string)) (fun z => ps.length - z.1) (0, v2) (by repeat (first | exact trivial | refine ⟨rfl, ?_⟩)) ⟨Nat.zero_le _, hx02, own_mono hown hx1.size⟩ ?_
    rintro ⟨j, v3⟩ w3 ⟨hj, hx3, hown3⟩
    dsimp only at hj hown3 ⊢
    have hfl := flat_le ps j
    (repeat (first | refine lw_pure hT rfl ?_ | refine lw_nil ?_ | refine cw_seq ?_ | refine cw_region ?_ | refine qw_then ?_))
    refine cw_cond rfl (fun e => ?_) (fun e => ?_)
    · have hlt : j < ps.length := by have := of_decide_eq_true e; omega
      obtain ⟨b, o, u, rfl, _, hrd, hu⟩ := hrow j hlt
      have hfl2 := flat_le ps (j + 1)
      rw [flat_take hlt, List.length_append] at hfl2
      (repeat (first | refine cw_seq ?_ | refine cw_region ?_ | refine qw_then ?_ | refine cw_skip ?_ | refine cw_block ?_))
      refine lw_index hT rfl rfl rfl j rfl hlt ?_
      skip
      refine lw_load hT rfl rfl (v := u) ((hrd.ex hx3) 0 _ rfl) ?_
      (repeat (first | refine lw_pure hT rfl ?_ | refine lw_nil ?_ | refine cw_region ?_ | refine qw_then ?_))
      refine lw_append_sl sl31 (by decide) rfl hown3 rfl (hu.ex hx3) (by intro r hr x hx; simp at hr; obtain ⟨y, _, rfl⟩ := hr; simp at hx; subst hx; rfl) (by unfold maxLen; simp only [List.length_map]; omega) (by simp only [List.length_map]; omega) hx3.size ?_
      intro v4 w4 k1 k2 k3 k4
      (repeat (first | (refine lw_add rfl rfl ?_ ?_ ?_; iterate 2 omega) | refine lw_pure hT rfl ?_ | refine lw_nil ?_ | refine cw_region ?_ | refine qw_then ?_ | refine qw_block ?_))
      refine qw_round (x := (j, v3)) (j + 1, v4) (by repeat (first | exact trivial | refine ⟨rfl, ?_⟩)) ⟨hlt, hx3.up_new k2 (fun k hk => (own_base hown3 hk.symm).1), ?_⟩ (by show ps.length - (j + 1) < ps.length - j; omega)
      rw [flat_take hlt]
      simp only [List.length_map] at k1
      rw [List.length_append, List.map_append]
      have ef : (ps[j].map fun s => [Value.string s]).flatten = ps[j].map Value.string := by induction ps[j] with
        | nil => rfl
        | cons x l ih => simp [ih]
      rw [ef] at k1
      exact k1
    · have hjl : j = ps.length := by have := of_decide_eq_false e; omega
      subst hjl
      rw [List.take_length] at hown3
      (repeat (first | refine lw_pure hT rfl ?_ | refine lw_nil ?_ | refine cw_seq ?_ | refine cw_region ?_ | refine qw_then ?_ | refine cw_ret ?_ | refine cw_exit ?_ | refine qw_block_exit ?_ | refine qw_then_exit ?_))
      exact qw_ret rfl ⟨hown3, hx3⟩
end Go.Proofs.YtnglkhnfmbnfeaaGreat
namespace Go.Proofs
open Go.Shelf
def Tryz.keys49_ren : Go.Shelf.Ren := ⟨fun | 7 => 49 | 10 => 97 | n => n, fun | 23 => 78 | 26 => 9 | 3 => 76 | 28 => 106 | 0 => 0 | 27 => 105 | 33 => 91 | 4 => 4 | n => n, fun | n => n⟩
theorem Tryz.keys49 : Go.Proofs.SlLaysZ.n7 Tryz.prog Tryz.keys49_ren := {
  mixed := by kernel_rfl
  f7 := ⟨Tryz.f49.name, by decide, Tryz.func49.trans (congrArg some (by kernel_rfl))⟩
  f10 := ⟨Tryz.f97.name, by decide, Tryz.func97.trans (congrArg some (by kernel_rfl))⟩
  t0 := Tryz.underlying0
  a0 := Tryz.isAgg0
  z0 := Tryz.sizeOf0
  v0 := Tryz.zeroValue0
  t4 := Tryz.underlying4
  a4 := Tryz.isAgg4
  z4 := Tryz.sizeOf4
  v4 := Tryz.zeroValue4
  t23 := Tryz.underlying78
  a23 := Tryz.isAgg78
  z23 := Tryz.sizeOf78
  v23 := Tryz.zeroValue78
  t26 := Tryz.underlying9
  a26 := Tryz.isAgg9
  z26 := Tryz.sizeOf9
  v26 := Tryz.zeroValue9
  t27 := Tryz.underlying105
  a27 := Tryz.isAgg105
  z27 := Tryz.sizeOf105
  v27 := Tryz.zeroValue105
  t28 := Tryz.underlying106
  a28 := Tryz.isAgg106
  z28 := Tryz.sizeOf106
  v28 := Tryz.zeroValue106
  t33 := Tryz.underlying91
  a33 := Tryz.isAgg91
  z33 := Tryz.sizeOf91
  v33 := Tryz.zeroValue91 }
def Tryz.sorted48_ren : Go.Shelf.Ren := ⟨fun | 6 => 48 | 8 => 95 | 9 => 96 | 11 => 134 | 13 => 136 | 12 => 135 | 23 => 156 | 24 => 157 | 14 => 147 | 15 => 148 | 16 => 149 | 17 => 150 | 18 => 151 | 19 => 152 | 20 => 153 | 21 => 154 | 22 => 155 | 25 => 164 | 26 => 165 | 27 => 166 | 28 => 167 | 29 => 168 | 30 => 169 | 31 => 172 | n => n, fun | 26 => 9 | 28 => 106 | 24 => 31 | 0 => 0 | 3 => 3 | 37 => 184 | 48 => 201 | 50 => 203 | 4 => 4 | 40 => 194 | 39 => 193 | 45 => 198 | 5 => 5 | 9 => 9 | 51 => 206 | 55 => 210 | 57 => 214 | 58 => 215 | 33 => 91 | n => n, fun | n => n⟩
theorem Tryz.sorted48 : Go.Proofs.SlLaysZ.n6 Tryz.prog Tryz.sorted48_ren := {
  mixed := by kernel_rfl
  f6 := ⟨Tryz.f48.name, by decide, Tryz.func48.trans (congrArg some (by kernel_rfl))⟩
  f8 := ⟨Tryz.f95.name, by decide, Tryz.func95.trans (congrArg some (by kernel_rfl))⟩
  f11 := ⟨Tryz.f134.name, by decide, Tryz.func134.trans (congrArg some (by kernel_rfl))⟩
  t0 := Tryz.underlying0
  a0 := Tryz.isAgg0
  z0 := Tryz.sizeOf0
  v0 := Tryz.zeroValue0
  t24 := Tryz.underlying31
  a24 := Tryz.isAgg31
  z24 := Tryz.sizeOf31
  v24 := Tryz.zeroValue31
  t26 := Tryz.underlying9
  a26 := Tryz.isAgg9
  z26 := Tryz.sizeOf9
  v26 := Tryz.zeroValue9
  t28 := Tryz.underlying106
  a28 := Tryz.isAgg106
  z28 := Tryz.sizeOf106
  v28 := Tryz.zeroValue106
  i26 := by kernel_rfl }
def Tryz.sort96_ren : Go.Shelf.Ren := ⟨fun | 6 => 96 | 8 => 136 | 9 => 135 | 19 => 156 | 20 => 157 | 21 => 147 | 22 => 148 | 23 => 149 | 24 => 150 | 25 => 151 | 26 => 152 | 27 => 153 | 28 => 154 | 29 => 155 | 36 => 164 | 31 => 165 | 32 => 166 | 37 => 167 | 38 => 168 | 39 => 169 | 41 => 172 | n => n, fun | 27 => 31 | 29 => 9 | 3 => 3 | 32 => 184 | 26 => 31 | 0 => 0 | 44 => 201 | 46 => 203 | 4 => 4 | 36 => 194 | 35 => 193 | 41 => 198 | 5 => 5 | 9 => 9 | 53 => 206 | 57 => 210 | 63 => 214 | 64 => 215 | n => n, fun | n => n⟩
theorem Tryz.sort96 : Go.Proofs.SlLaysM.n6 Tryz.prog Tryz.sort96_ren := {
  mixed := by kernel_rfl
  f6 := ⟨Tryz.f96.name, by decide, Tryz.func96.trans (congrArg some (by kernel_rfl))⟩
  f8 := Tryz.func136.trans (congrArg some (by kernel_rfl))
  f9 := ⟨Tryz.f135.name, by decide, Tryz.func135.trans (congrArg some (by kernel_rfl))⟩
  f19 := Tryz.func156.trans (congrArg some (by kernel_rfl))
  f20 := Tryz.func157.trans (congrArg some (by kernel_rfl))
  f21 := ⟨Tryz.f147.name, by decide, Tryz.func147.trans (congrArg some (by kernel_rfl))⟩
  f22 := ⟨Tryz.f148.name, by decide, Tryz.func148.trans (congrArg some (by kernel_rfl))⟩
  f23 := ⟨Tryz.f149.name, by decide, Tryz.func149.trans (congrArg some (by kernel_rfl))⟩
  f24 := ⟨Tryz.f150.name, by decide, Tryz.func150.trans (congrArg some (by kernel_rfl))⟩
  f25 := ⟨Tryz.f151.name, by decide, Tryz.func151.trans (congrArg some (by kernel_rfl))⟩
  f26 := ⟨Tryz.f152.name, by decide, Tryz.func152.trans (congrArg some (by kernel_rfl))⟩
  f27 := ⟨Tryz.f153.name, by decide, Tryz.func153.trans (congrArg some (by kernel_rfl))⟩
  f28 := ⟨Tryz.f154.name, by decide, Tryz.func154.trans (congrArg some (by kernel_rfl))⟩
  f29 := ⟨Tryz.f155.name, by decide, Tryz.func155.trans (congrArg some (by kernel_rfl))⟩
  f31 := Tryz.func165.trans (congrArg some (by kernel_rfl))
  f32 := Tryz.func166.trans (congrArg some (by kernel_rfl))
  f36 := ⟨Tryz.f164.name, by decide, Tryz.func164.trans (congrArg some (by kernel_rfl))⟩
  f37 := ⟨Tryz.f167.name, by decide, Tryz.func167.trans (congrArg some (by kernel_rfl))⟩
  f38 := ⟨Tryz.f168.name, by decide, Tryz.func168.trans (congrArg some (by kernel_rfl))⟩
  f39 := ⟨Tryz.f169.name, by decide, Tryz.func169.trans (congrArg some (by kernel_rfl))⟩
  f41 := ⟨Tryz.f172.name, by decide, Tryz.func172.trans (congrArg some (by kernel_rfl))⟩
  t0 := Tryz.underlying0
  a0 := Tryz.isAgg0
  z0 := Tryz.sizeOf0
  v0 := Tryz.zeroValue0
  t3 := Tryz.underlying3
  a3 := Tryz.isAgg3
  z3 := Tryz.sizeOf3
  v3 := Tryz.zeroValue3
  t4 := Tryz.underlying4
  a4 := Tryz.isAgg4
  z4 := Tryz.sizeOf4
  v4 := Tryz.zeroValue4
  t5 := Tryz.underlying5
  a5 := Tryz.isAgg5
  z5 := Tryz.sizeOf5
  v5 := Tryz.zeroValue5
  t9 := Tryz.underlying9
  a9 := Tryz.isAgg9
  z9 := Tryz.sizeOf9
  v9 := Tryz.zeroValue9
  t26 := Tryz.underlying31
  a26 := Tryz.isAgg31
  z26 := Tryz.sizeOf31
  v26 := Tryz.zeroValue31
  t27 := Tryz.underlying31
  a27 := Tryz.isAgg31
  z27 := Tryz.sizeOf31
  v27 := Tryz.zeroValue31
  t29 := Tryz.underlying9
  a29 := Tryz.isAgg9
  z29 := Tryz.sizeOf9
  v29 := Tryz.zeroValue9
  t32 := Tryz.underlying184
  a32 := Tryz.isAgg184
  z32 := Tryz.sizeOf184
  v32 := Tryz.zeroValue184
  t35 := Tryz.underlying193
  a35 := Tryz.isAgg193
  z35 := Tryz.sizeOf193
  v35 := Tryz.zeroValue193
  t36 := Tryz.underlying194
  a36 := Tryz.isAgg194
  z36 := Tryz.sizeOf194
  v36 := Tryz.zeroValue194
  t41 := Tryz.underlying198
  a41 := Tryz.isAgg198
  z41 := Tryz.sizeOf198
  v41 := Tryz.zeroValue198
  t44 := Tryz.underlying201
  a44 := Tryz.isAgg201
  z44 := Tryz.sizeOf201
  v44 := Tryz.zeroValue201
  t46 := Tryz.underlying203
  a46 := Tryz.isAgg203
  z46 := Tryz.sizeOf203
  v46 := Tryz.zeroValue203
  t53 := Tryz.underlying206
  a53 := Tryz.isAgg206
  z53 := Tryz.sizeOf206
  v53 := Tryz.zeroValue206
  t57 := Tryz.underlying210
  a57 := Tryz.isAgg210
  z57 := Tryz.sizeOf210
  v57 := Tryz.zeroValue210
  t63 := Tryz.underlying214
  a63 := Tryz.isAgg214
  z63 := Tryz.sizeOf214
  v63 := Tryz.zeroValue214
  t64 := Tryz.underlying215
  a64 := Tryz.isAgg215
  z64 := Tryz.sizeOf215
  v64 := Tryz.zeroValue215 }
def Tryz.keys54_ren : Go.Shelf.Ren := ⟨fun | 7 => 54 | 10 => 102 | n => n, fun | 23 => 111 | 26 => 9 | 3 => 4 | 28 => 106 | 0 => 0 | 27 => 105 | 33 => 91 | 4 => 4 | n => n, fun | n => n⟩
theorem Tryz.keys54 : Go.Proofs.SlLaysZ.n7 Tryz.prog Tryz.keys54_ren := {
  mixed := by kernel_rfl
  f7 := ⟨Tryz.f54.name, by decide, Tryz.func54.trans (congrArg some (by kernel_rfl))⟩
  f10 := ⟨Tryz.f102.name, by decide, Tryz.func102.trans (congrArg some (by kernel_rfl))⟩
  t0 := Tryz.underlying0
  a0 := Tryz.isAgg0
  z0 := Tryz.sizeOf0
  v0 := Tryz.zeroValue0
  t4 := Tryz.underlying4
  a4 := Tryz.isAgg4
  z4 := Tryz.sizeOf4
  v4 := Tryz.zeroValue4
  t23 := Tryz.underlying111
  a23 := Tryz.isAgg111
  z23 := Tryz.sizeOf111
  v23 := Tryz.zeroValue111
  t26 := Tryz.underlying9
  a26 := Tryz.isAgg9
  z26 := Tryz.sizeOf9
  v26 := Tryz.zeroValue9
  t27 := Tryz.underlying105
  a27 := Tryz.isAgg105
  z27 := Tryz.sizeOf105
  v27 := Tryz.zeroValue105
  t28 := Tryz.underlying106
  a28 := Tryz.isAgg106
  z28 := Tryz.sizeOf106
  v28 := Tryz.zeroValue106
  t33 := Tryz.underlying91
  a33 := Tryz.isAgg91
  z33 := Tryz.sizeOf91
  v33 := Tryz.zeroValue91 }
end Go.Proofs
namespace Go.SK
open Go
attribute [local semireducible] CW LW QW Ret Kn
section
variable {P : Program} {T : Tab} {n : Nat} {fr : Fr} {w : World} {Q : Exit → Act → World → Prop} {ops : Array Oper} {rest : List Oper} {S : World → Prop}
def PlainAt (P : Program) (xs : List Value) (t o : Nat) : Prop := (P.underlying t = some .string ∧ ∃ s, xs[o]? = some (.string s)) ∨ (P.underlying t = some (.int .i64) ∧ ∃ i, xs[o]? = some (.int .i64 i))
theorem eqFields_same {d : Nat} {xs : List Value} : ∀ (fs : List Field) (ks : List (Bool × Nat × Nat)), fs.map (fun f => (f.name == "_", f.type, f.offset)) = ks → (∀ k ∈ ks, k.1 = false ∧ PlainAt P xs k.2.1 k.2.2) → ∀ w, (Op.eqFields (d + 1) ⟨xs⟩ ⟨xs⟩ fs).run P w = .ok true w
  | [], _, _, _, w => by simp [Op.eqFields]
  | f :: fs, ks, h, hp, w => by
    subst h
    have ih := eqFields_same (d := d) (xs := xs) fs _ rfl (fun k hk => hp k (List.mem_cons_of_mem _ hk)) w
    obtain ⟨h1, h2⟩ := hp _ List.mem_cons_self
    dsimp only at h1 h2
    have hn : f.name ≠ "_" := by simpa using h1
    rw [Op.eqFields, if_pos hn]
    rcases h2 with ⟨hu, s, hx⟩ | ⟨hu, i, hx⟩
    · have hag : (isAgg f.type).run P w = .ok false w := by unfold isAgg; simp [run_underlying hu]
      have hpt : (part f.type ⟨xs⟩ f.offset).run P w = .ok (.string s) w := by simp [part, hag, hx]
      have he := run_equalIn_string (P := P) w d f.type s s hu
      simp only [Sem.run_bind, hpt, Result.andThen_ok, he]
      simpa using ih
    · have hag : (isAgg f.type).run P w = .ok false w := by unfold isAgg; simp [run_underlying hu]
      have hpt : (part f.type ⟨xs⟩ f.offset).run P w = .ok (.int .i64 i) w := by simp [part, hag, hx]
      have he := run_equalIn_int (P := P) w d f.type .i64 .i64 i i hu
      simp only [Sem.run_bind, hpt, Result.andThen_ok, he]
      simpa using ih
def SelfEq (P : Program) (t : Nat) (xs : List Value) : Prop := (∀ w, (Op.equal t (.agg ⟨xs⟩) (.agg ⟨xs⟩)).run P w = .ok true w) ∧ P.eqGuardType P.depth t = false
theorem equalIn_same (d : Nat) {t : Nat} {xs : List Value} {ks : List (Bool × Nat × Nat)} (ht : P.underlying t = some (.struct (P.fieldsOf t))) (hp : P.stoodInHeld t = false) (hk : (P.fieldsOf t).toList.map (fun f => (f.name == "_", f.type, f.offset)) = ks)
    (hs : ∀ k ∈ ks, k.1 = false ∧ PlainAt P xs k.2.1 k.2.2) : (Op.equalIn (d + 1 + 1) t (.agg ⟨xs⟩) (.agg ⟨xs⟩)).run P w = .ok true w := by
  rw [run_equalIn_struct w (d + 1) t _ _ ht hp]
  exact eqFields_same _ ks hk hs w
theorem selfEq {t : Nat} {xs : List Value} {ks : List (Bool × Nat × Nat)} (ht : P.underlying t = some (.struct (P.fieldsOf t))) (hp : P.stoodInHeld t = false) (hg : P.eqGuardType P.depth t = false) (hk : (P.fieldsOf t).toList.map (fun f => (f.name == "_", f.type, f.offset)) = ks)
    (hs : ∀ k ∈ ks, k.1 = false ∧ PlainAt P xs k.2.1 k.2.2) : SelfEq P t xs := ⟨fun _ => equalIn_same 9998 ht hp hk hs, hg⟩
theorem run_neq_same {t : Nat} {xs : List Value} (h : SelfEq P t xs) (x y : Operand) (w : World) : (do eqGuard .neq t x y (.agg ⟨xs⟩) (.agg ⟨xs⟩); binOp .neq t (.agg ⟨xs⟩) (.agg ⟨xs⟩) : Sem Value).run P w = .ok (.bool false) w := by
  have hb : (binOp .neq t (.agg ⟨xs⟩) (.agg ⟨xs⟩)).run P w = .ok (.bool false) w := by
    have := h.1 w
    simp only [binOp]
    simp [this]
  simp only [Sem.run_bind, run_eqGuard_agg w .neq t x y _ _ h.2, Result.andThen_ok, hb]
theorem yo_neq_same {d t : Nat} {x y : Operand} {t' : TypeId} {ty : TypeId} {ps : String} {af : Array Edge} {xs : List Value} (hx : ev n fr x = some (.agg ⟨xs⟩)) (hy : ev n fr y = some (.agg ⟨xs⟩)) (h : SelfEq P t xs) :
    YO P ops S n fr { dst := some d, op := .binOp .neq t x y t', type := ty, pos := ps, after := af, guard := none } (.bool false) :=
  yo_run rfl fun a' hk w _ => by
    have := run_neq_same h x y w
    simp only [execOp, ev_sound hk hx, ev_sound hk hy]
    rw [Sem.run_bind, this]; rfl
end
end Go.SK
namespace Go.Proofs.YtnglkhnfmbnfeaaGreat
open Go Go.SK
theorem end_self (x : EndD) : SelfEq Tryz.prog 139 (encE x) :=
  selfEq (ks := [(false, 9, 0), (false, 9, 1), (false, 3, 2), (false, 3, 3)]) (by kernel_rfl) (by kernel_rfl) (by kernel_rfl) (by kernel_rfl) (by
    have us : Tryz.prog.underlying 9 = some .string := by kernel_rfl
    have ui : Tryz.prog.underlying 3 = some (.int .i64) := by kernel_rfl
    intro k hk
    simp at hk
    rcases hk with rfl | rfl | rfl | rfl
    · exact ⟨rfl, .inl ⟨us, _, rfl⟩⟩
    · exact ⟨rfl, .inl ⟨us, _, rfl⟩⟩
    · exact ⟨rfl, .inr ⟨ui, _, rfl⟩⟩
    · exact ⟨rfl, .inr ⟨ui, _, rfl⟩⟩)
theorem r23_Chains {A B : Nat → Prop} {va vb : Value} {l : List EndD} (w : World) (hA : SlE A w va l) (hB : SlE B w vb l) : Ret Tryz.prog 68 [va, vb] w fun u w' => u = .bool true ∧ Ex w w' := by
  have hma := hA.small
  obtain ⟨a, ca, rfl, _, hra⟩ := hA.is
  obtain ⟨b, cb, rfl, _, hrb⟩ := hB.is
  simp only [List.length_map] at *
  unfold maxLen at hma
  refine ret_of Tryz.func68 Tryz.ntmps68 rfl rfl rfl ?_
  (repeat (first | refine lw_pure hT rfl ?_ | refine lw_nil ?_ | refine cw_seq ?_ | refine cw_region ?_ | refine qw_then ?_))
  refine cw_cond rfl (fun h => ?_) (fun h => ?_)
  · exfalso; simp at h
  (repeat (first | refine lw_pure hT rfl ?_ | refine lw_nil ?_ | refine cw_seq ?_ | refine cw_region ?_ | refine qw_then ?_ | refine cw_skip ?_ | refine cw_block ?_))
  refine cw_loop (fun i : Nat => [(0, .slice a l.length ca), (1, .slice b l.length cb), (5, .int .i64 (i : Nat))]) (fun i w' => Ex w w' ∧ i ≤ l.length) (fun i => l.length - i) 0 (by repeat (first | exact trivial | refine ⟨rfl, ?_⟩)) ⟨Ext.refl _ _, Nat.zero_le _⟩ ?_
  rintro i w1 ⟨hx1, hi⟩
  (repeat (first | refine lw_pure hT rfl ?_ | refine lw_nil ?_ | refine cw_seq ?_ | refine cw_region ?_ | refine qw_then ?_))
  refine cw_cond rfl (fun h => ?_) (fun h => ?_)
  · have hlt : i < l.length := by simp at h; omega
    have hne : l.map encE ≠ [] := by intro e; simp at e; subst e; simp at hlt
    obtain ⟨ba, oa, rfl, _, hrda⟩ := hra hne
    obtain ⟨bb, ob, rfl, _, hrdb⟩ := hrb hne
    have ra := (hrda i (encE l[i]) (by simp [hlt])).2.ex hx1
    have rb := (hrdb i (encE l[i]) (by simp [hlt])).2.ex hx1
    (repeat (first | refine cw_seq ?_ | refine qw_then ?_ | refine cw_skip ?_ | refine cw_block ?_))
    refine cw_draw hM (fun w' => Ex w1 w') [] rfl rfl (by repeat with_reducible (first | refine nop_then ?_ | refine nop_block ?_ | exact nop_body)) (fun w2 hx2 _ => ⟨hx2, ?_⟩)
    (refine rw_takeP 0 rfl rfl (by kernel_rfl) (by kernel_rfl) (by kernel_rfl) (by kernel_rfl) rfl (yo_pure hT rfl) ?_; refine rw_takeP 1 rfl rfl (by kernel_rfl) (by kernel_rfl) (by kernel_rfl) (by kernel_rfl) rfl (yo_pure hT rfl) ?_)
    refine rw_takeP 2 rfl rfl (by kernel_rfl) (by kernel_rfl) (by kernel_rfl) (by kernel_rfl) rfl (yo_index hT rfl rfl rfl i rfl hlt) ?_
    refine rw_take 3 rfl rfl (by kernel_rfl) (by kernel_rfl) (by kernel_rfl) (by kernel_rfl) rfl (yo_load_agg hT rfl rfl rfl (vs := encE l[i]) (fun w' hS => ra.ex hS)) ?_
    (refine rw_takeP 4 rfl rfl (by kernel_rfl) (by kernel_rfl) (by kernel_rfl) (by kernel_rfl) rfl (yo_pure hT rfl) ?_; refine rw_takeP 5 rfl rfl (by kernel_rfl) (by kernel_rfl) (by kernel_rfl) (by kernel_rfl) rfl (yo_pure hT rfl) ?_)
    refine rw_takeP 6 rfl rfl (by kernel_rfl) (by kernel_rfl) (by kernel_rfl) (by kernel_rfl) rfl (yo_index hT rfl rfl rfl i rfl hlt) ?_
    refine rw_take 7 rfl rfl (by kernel_rfl) (by kernel_rfl) (by kernel_rfl) (by kernel_rfl) rfl (yo_load_agg hT rfl rfl rfl (vs := encE l[i]) (fun w' hS => rb.ex hS)) ?_
    refine rw_takeP 8 rfl rfl (by kernel_rfl) (by kernel_rfl) (by kernel_rfl) (by kernel_rfl) rfl (yo_neq_same rfl rfl (end_self l[i])) ?_
    refine rw_done (by kernel_rfl) ?_
    (repeat (first | (refine lw_add rfl rfl ?_ ?_ ?_; iterate 2 omega) | refine lw_pure hT rfl ?_ | refine lw_nil ?_ | refine cw_region ?_ | refine qw_then ?_ | refine cw_skip ?_ | refine qw_block ?_ | (refine cw_cond_f rfl ?_ ?_; focus with_reducible (first | rfl | exact Bool.not_false | exact Bool.not_true))))
    refine qw_round (i + 1) (by repeat (first | exact trivial | refine ⟨rfl, ?_⟩)) ⟨hx1.trans hx2, hlt⟩ (by omega)
  · have : i = l.length := by simp at h; omega
    subst this
    (repeat (first | refine lw_pure hT rfl ?_ | refine lw_nil ?_ | refine cw_seq ?_ | refine cw_region ?_ | refine qw_then ?_ | refine cw_ret ?_ | refine cw_exit ?_ | refine qw_block_exit ?_ | refine qw_then_exit ?_))
    exact qw_ret rfl ⟨rfl, hx1⟩
end Go.Proofs.YtnglkhnfmbnfeaaGreat
namespace Go.Proofs.YtnglkhnfmbnfeaaGreat
open Go Go.SK
def ltB (x y : ByteArray) : Bool := Op.bytesLess x.toList y.toList
theorem ltB_iff {x y : ByteArray} : ltB x y = true ↔ x.toList < y.toList := by unfold ltB; rw [bytesLess_eq]; simp
theorem ltB_trans {x y z : ByteArray} (h1 : ltB x y = true) (h2 : ltB y z = true) : ltB x z = true := by rw [ltB_iff] at *; exact List.lt_trans h1 h2
theorem ltB_irrefl (x : ByteArray) : ltB x x = false := by
  cases h : ltB x x with
  | false => rfl
  | true => rw [ltB_iff] at h; exact absurd h (List.lt_irrefl _)
theorem ltB_asymm {x y : ByteArray} (h1 : ltB x y = true) (h2 : ltB y x = true) : x = y := by
  rw [ltB_iff] at *
  exact absurd (List.lt_trans h1 h2) (List.lt_irrefl _)
theorem ltB_total {x y : ByteArray} (h : ltB x y = false) (hne : x ≠ y) : ltB y x = true := by
  rw [ltB_iff]
  have h1 : ¬ x.toList < y.toList := fun h' => by rw [ltB_iff.2 h'] at h; cases h
  have h2 : y.toList ≤ x.toList := List.not_lt.1 h1
  rcases List.le_iff_lt_or_eq.1 h2 with h3 | h3
  · exact h3
  · exact absurd (bytes_eq.1 h3.symm) hne
def Rising (l : List ByteArray) : Prop := l.Pairwise fun x y => ltB x y = true
theorem Rising.eq {l l' : List ByteArray} (h : Rising l) (h' : Rising l') (hp : l.Perm l') : l = l' :=
  List.Perm.eq_of_pairwise (le := fun x y => ltB x y = true) (fun _ _ _ _ h1 h2 => ltB_asymm h1 h2) h h' hp
theorem Rising.filter {l : List ByteArray} (h : Rising l) (p : ByteArray → Bool) : Rising (l.filter p) := List.Pairwise.filter p h
def putL (l : List ByteArray) (s : ByteArray) : List ByteArray := l.takeWhile (fun y => ltB y s) ++ s :: l.dropWhile (fun y => ltB y s)
theorem putL_at {l : List ByteArray} {s : ByteArray} {k : Nat} (hk : k ≤ l.length) (h1 : ∀ j (hj : j < l.length), j < k → ltB l[j] s = true) (h2 : ∀ hj : k < l.length, ltB l[k] s = false) : putL l s = l.take k ++ s :: l.drop k := by
  have key : ∀ (l : List ByteArray) (k : Nat), k ≤ l.length → (∀ j (hj : j < l.length), j < k → ltB l[j] s = true) → (∀ hj : k < l.length, ltB l[k] s = false) → l.takeWhile (fun y => ltB y s) = l.take k ∧ l.dropWhile (fun y => ltB y s) = l.drop k := by
    intro l
    induction l with
    | nil => intro k hk _ _; simp at hk; subst hk; exact ⟨rfl, rfl⟩
    | cons a l ih =>
      intro k hk h1 h2
      cases k with
      | zero =>
        have := h2 (by simp)
        simp only [List.getElem_cons_zero] at this
        simp [this]
      | succ k =>
        have h0 := h1 0 (by simp) (by omega)
        simp only [List.getElem_cons_zero] at h0
        obtain ⟨g1, g2⟩ := ih k (by simpa using hk) (fun j hj hjk => by have := h1 (j + 1) (by simp; omega) (by omega); simpa using this) (fun hj => by have := h2 (by simp; omega); simpa using this)
        simp [h0, g1, g2]
  unfold putL
  obtain ⟨g1, g2⟩ := key l k hk h1 h2
  rw [g1, g2]
theorem putL_perm (l : List ByteArray) (s : ByteArray) : (putL l s).Perm (s :: l) := by
  unfold putL
  have e := List.takeWhile_append_dropWhile (p := fun y => ltB y s) (l := l)
  have h := List.perm_middle (a := s) (l₁ := l.takeWhile (fun y => ltB y s)) (l₂ := l.dropWhile (fun y => ltB y s))
  rwa [e] at h
theorem putL_len (l : List ByteArray) (s : ByteArray) : (putL l s).length = l.length + 1 := by
  have := (putL_perm l s).length_eq
  simpa using this
theorem putL_rising {l : List ByteArray} {s : ByteArray} (h : Rising l) (hs : s ∉ l) : Rising (putL l s) := by
  induction l with
  | nil => exact List.pairwise_singleton _ _
  | cons a l ih =>
    obtain ⟨ha, hl⟩ := List.pairwise_cons.1 h
    have hsa : s ≠ a := fun e => hs (by rw [e]; exact List.mem_cons_self)
    have hsl : s ∉ l := fun e => hs (List.mem_cons_of_mem _ e)
    by_cases e : ltB a s = true
    · have ep : putL (a :: l) s = a :: putL l s := by simp [putL, e]
      rw [ep]
      refine List.pairwise_cons.2 ⟨fun y hy => ?_, ih hl hsl⟩
      rcases List.mem_cons.1 ((putL_perm l s).mem_iff.1 hy) with rfl | hy
      · exact e
      · exact ha y hy
    · have e' : ltB a s = false := by simpa using e
      have ep : putL (a :: l) s = s :: a :: l := by simp [putL, e']
      rw [ep]
      have hsa' := ltB_total e' (fun e => hsa e.symm)
      refine List.pairwise_cons.2 ⟨fun y hy => ?_, h⟩
      rcases List.mem_cons.1 hy with rfl | hy
      · exact hsa'
      · exact ltB_trans hsa' (ha y hy)
def putAll (l : List ByteArray) : List ByteArray := l.foldl putL []
theorem putAll_snoc (l : List ByteArray) (s : ByteArray) : putAll (l ++ [s]) = putL (putAll l) s := by simp [putAll]
theorem foldl_perm : ∀ (l acc : List ByteArray), (l.foldl putL acc).Perm (acc ++ l)
  | [], acc => by simp
  | s :: l, acc => by
    have h := foldl_perm l (putL acc s)
    have h2 : (putL acc s ++ l).Perm (acc ++ s :: l) := ((putL_perm acc s).append_right l).trans (by simpa using (List.perm_middle (a := s) (l₁ := acc) (l₂ := l)).symm)
    exact h.trans h2
theorem putAll_perm (l : List ByteArray) : (putAll l).Perm l := by simpa [putAll] using foldl_perm l []
theorem foldl_rising : ∀ (l acc : List ByteArray), Rising acc → (acc ++ l).Nodup → Rising (l.foldl putL acc)
  | [], acc, h, _ => h
  | s :: l, acc, h, hn => by
    have h1 : (s :: (acc ++ l)).Nodup := (List.perm_middle (a := s) (l₁ := acc) (l₂ := l)).nodup_iff.1 hn
    have h2 : s ∉ acc := fun hs => (List.nodup_cons.1 h1).1 (List.mem_append_left _ hs)
    refine foldl_rising l (putL acc s) (putL_rising h h2) ?_
    exact (((putL_perm acc s).append_right l).nodup_iff).2 (by simpa using h1)
theorem putAll_rising {l : List ByteArray} (h : l.Nodup) : Rising (putAll l) := foldl_rising l [] List.Pairwise.nil (by simpa using h)
def RegD.nums (r : RegD) : List ByteArray := r.l.map (·.bill.number)
theorem RegD.Nd.nums {r : RegD} (h : r.Nd) : r.nums.Nodup := by
  unfold RegD.nums List.Nodup
  rw [List.pairwise_iff_getElem]
  intro i j hi hj hij he
  rw [List.length_map] at hi hj
  rw [List.getElem_map, List.getElem_map] at he
  have := h i j _ _ (List.getElem?_eq_getElem hi) (List.getElem?_eq_getElem hj) he
  omega
def EntD.holds (e : EntD) (who : ByteArray) : Bool := decide (e.state = 0) && e.ps.any fun q => decide (q.state = 0) && decide (q.holder = who)
def RegD.holdsN (r : RegD) (who n : ByteArray) : Bool := match r.at? n with
  | none => false
  | some e => e.holds who
theorem at_self {r : RegD} (h : r.Nd) {e : EntD} (he : e ∈ r.l) : r.at? e.bill.number = some e := by
  cases hat : r.at? e.bill.number with
  | none => exact absurd rfl (at_none hat e he)
  | some x =>
    obtain ⟨hn, i, hi⟩ := at_some hat
    obtain ⟨j, hj⟩ := List.getElem?_of_mem he
    have := h i j x e hi hj hn.symm
    subst this
    rw [hi] at hj; cases hj; rfl
theorem nums_filter {r : RegD} (h : r.Nd) (who : ByteArray) : r.nums.filter (r.holdsN who) = (r.l.filter fun e => e.holds who).map (·.bill.number) := by
  unfold RegD.nums
  rw [List.filter_map]
  congr 1
  apply List.filter_congr
  intro e he
  simp only [Function.comp, RegD.holdsN, at_self h he]
theorem of_eq {r : RegD} (h : r.Nd) (who : ByteArray) {L : List ByteArray} (hL : Rising L) (hp : L.Perm r.nums) : L.filter (r.holdsN who) = putAll ((r.l.filter fun e => e.holds who).map (·.bill.number)) := by
  refine Rising.eq (hL.filter _) (putAll_rising ?_) ?_
  · rw [← nums_filter h]; exact List.Pairwise.filter _ h.nums
  · rw [← nums_filter h]
    exact (hp.filter _).trans (putAll_perm _).symm
theorem bills_eq {r : RegD} (h : r.Nd) {L : List ByteArray} (hL : Rising L) (hp : L.Perm r.nums) : L = putAll r.nums := Rising.eq hL (putAll_rising h.nums) (hp.trans (putAll_perm _).symm)
end Go.Proofs.YtnglkhnfmbnfeaaGreat
namespace Go.Proofs.YtnglkhnfmbnfeaaGreat
open Go Go.SK
def voided (ps : List PapD) (i : Nat) : List PapD := (ps.take i).map (stateP 2) ++ ps.drop i
theorem voided_step {ps : List PapD} (h : ps.length = 3) {i : Nat} (hi : i < 3) : onIx [i] (stateP 2) (voided ps i) = voided ps (i + 1) := by
  obtain ⟨a, b, c, rfl⟩ := three_cases h
  match i, hi with
  | 0, _ => rfl
  | 1, _ => rfl
  | 2, _ => rfl
theorem voided_3 {ps : List PapD} (h : ps.length = 3) : voided ps 3 = ps.map (stateP 2) := by
  obtain ⟨a, b, c, rfl⟩ := three_cases h
  rfl
theorem PapsAt.states {A : Nat → Prop} {w w' : World} {bq : Nat} {ps : List PapD} {vcs tail : List Value} (h : PapsAt A w bq ps vcs tail) (hA : ∀ b, A b → b ≠ bq) {k : Nat} (hk : k < 3) (s : Int) (hx : Ext (· = bq) w w') (hb : Blk w' bq (((rowsOf ps vcs).flatten ++ tail).set (k * 3) (.int .i64 s)) 126) :
    PapsAt A w' bq (onIx [k] (stateP s) ps) vcs tail := by
  refine ⟨by rw [onIx_len]; exact h.three, h.three', by rw [← set_st h.three h.three' hk]; exact hb, fun i q' vc hq' hvc => ?_⟩
  have hi : i < ps.length := by have := (List.getElem?_eq_some_iff.1 hq').1; rwa [onIx_len] at this
  rw [onIx_get (List.getElem?_eq_getElem hi)] at hq'
  have := (h.chains i ps[i] vc (List.getElem?_eq_getElem hi) hvc).ext hx hA
  simp only [Option.some.injEq] at hq'
  subst hq'; split <;> exact this
set_option maxHeartbeats 4000000 in
theorem r23_Do {A0' A0 : Nat → Prop} {w : World} {vL : Value} {l : List EntD} {gs : List FG} (c : ByteArray) (hF : FRep A0' w vL l gs) (hl : l.length ≤ 256) (hN : RegD.Nd ⟨c, l⟩) (hsm : RegD.Small ⟨c, l⟩) (a : ActD) {vb vp : Value} (hB : SlS A0 w vb a.b.boxes) (hP : SlS A0 w vp a.b.parents) (hok : a.b.Ok)
    (hcap : ∀ a n c, vb = .slice a n c → n ≤ c) (hk : 0 ≤ a.kind ∧ a.kind ≤ 5) (hto : a.to_.size ≤ maxLen) :
    Ret Tryz.prog 34 [.agg ⟨encR c vL⟩, .agg ⟨encAct a vb vp⟩] w fun v w' =>
      (∃ vL' gs', v = .tuple #[.agg ⟨encR c vL'⟩, .int .i64 (actC ⟨c, l⟩ a)] ∧ FRep (fun b => A0' b ∨ w.heap.size ≤ b) w' vL' (doA ⟨c, l⟩ a).l gs') ∧ Ex w w' := by
  have hF0 := hF.lt
  obtain ⟨aL, cL, hvL, hLm⟩ := hF.slice
  subst hvL
  unfold maxLen at hLm
  refine ret_of Tryz.func34 Tryz.ntmps34 rfl rfl rfl ?_
  (repeat (first | refine cw_seq ?_ | refine cw_region ?_))
  refine lw_box rfl ?_
  intro b2 w1 hbb2 hb2 hx1 hs1
  replace hb2 : Blk w1 b2 (encR c (.slice aL l.length cL)) 28 := hb2
  skip
  refine lw_box rfl ?_
  intro b3 w2 hbb3 hb3 hx2 hs2
  replace hb3 : Blk w2 b3 (encAct a vb vp) 73 := hb3
  skip
  refine lw_alloc z28 ?_
  intro b4 w3 hbb4 hb4 hx3 hs3
  have hx03 := (hx1.trans hx2).trans hx3
  have hb23 := (hb2.ex hx2).ex hx3
  have hb33 := hb3.ex hx3
  have hF3 := hF.ex hx03
  (repeat (first | refine lw_pure hT rfl ?_ | refine lw_nil ?_ | refine cw_seq ?_ | refine cw_region ?_ | refine qw_then ?_))
  refine lw_load hT rfl rfl (v := .int .i64 a.kind) (hb33.cell 0) ?_
  (repeat (first | refine lw_pure hT rfl ?_ | refine lw_nil ?_ | refine qw_then ?_))
  refine cw_cond rfl (fun h0 => ?_) (fun h0 => ?_)
  · have h0 : a.kind = 0 := by simpa using h0
    (repeat (first | refine cw_seq ?_ | refine cw_region ?_))
    refine lw_load_agg hT rfl rfl rfl (vs := encR c (.slice aL l.length cL)) (hb23.rd 0 2) ?_
    (repeat (refine lw_pure hT rfl ?_))
    refine lw_load_agg hT rfl rfl rfl (vs := encB a.b vb vp) (hb33.rd 6 9) ?_
    (repeat (refine lw_pure hT rfl ?_))
    refine lw_load hT rfl rfl (v := .string a.to_) (hb33.cell 5) ?_
    skip
    refine lw_call hT rfl rfl (r23_Issue c (hF0.ex hx03) hl (hB.ex hx03) (hP.ex hx03) hok hcap a.to_ hto) ?_
    rintro _ w4 ⟨⟨vL', gs', rfl, hF'⟩, hx4⟩
    have hl3 := hx03.size
    (repeat (refine lw_pure hT rfl ?_))
    refine lw_store_agg hT rfl rfl rfl rfl (by intro v hv; simp [encR] at hv; rcases hv with rfl | rfl <;> first | rfl | exact Sl.one hF'.sl) (hb4.ex hx4) (show (2 : Nat) ≤ 2 by decide) ?_
    intro w5 hb5 hx5 hs5
    (repeat (first | refine lw_pure hT rfl ?_ | refine lw_nil ?_ | refine qw_then ?_ | refine cw_ret ?_ | refine qw_then_ret ?_))
    have hac : actC ⟨c, l⟩ a = issueC ⟨c, l⟩ a.b a.to_ := by unfold actC; rw [if_pos h0]
    have had : doA ⟨c, l⟩ a = issueD ⟨c, l⟩ a.b a.to_ := by unfold doA; rw [if_pos h0]
    have hx05 : Ex w w5 := (hx03.trans hx4).up_new hx5 (fun i hi => by omega)
    refine qw_ret_cell hT rfl rfl rfl rfl (vs := encR c vL') (hb5.rd 0 2) rfl ⟨⟨vL', gs', by rw [hac]; rfl, ?_⟩, hx05⟩
    rw [had]
    exact (hF'.ext hx5 (fun b hb e => by rcases hb with hb | hb <;> omega)).weaken fun b hb => by
      rcases hb with hb | hb
      · exact .inl hb.1
      · exact .inr (by omega)
  · have h0 : ¬ a.kind = 0 := by simpa using h0
    have hk1 : 1 ≤ a.kind ∧ a.kind ≤ 5 := by omega
    have hac : actC ⟨c, l⟩ a = askC ⟨c, l⟩ a.ask := by unfold actC; rw [if_neg h0]
    have hbill : a.ask.bill = a.bill := by
      have : a.kind = 1 ∨ a.kind = 2 ∨ a.kind = 3 ∨ a.kind = 4 ∨ a.kind = 5 := by omega
      rcases this with h | h | h | h | h <;> simp [ActD.ask, h]
    (repeat (first | refine cw_seq ?_ | refine cw_region ?_ | refine qw_then ?_ | refine cw_skip ?_))
    refine lw_load_agg hT rfl rfl rfl (vs := encR c (.slice aL l.length cL)) (hb23.rd 0 2) ?_
    skip
    refine lw_load_agg hT rfl rfl rfl (vs := encAct a vb vp) (hb33.rd 0 15) ?_
    skip
    refine lw_call hT rfl rfl (r23_Wrong (A0 := A0) c hF3 a vb vp hk1 hto) ?_
    rintro _ w4 ⟨rfl, hx4⟩
    have hx04 := hx03.trans hx4
    have hb24 := hb23.ex hx4
    have hb34 := hb33.ex hx4
    have hb44 := hb4.ex hx4
    have hl4 := hx4.size
    (repeat (first | refine lw_pure hT rfl ?_ | refine lw_nil ?_ | refine cw_seq ?_ | refine cw_region ?_ | refine qw_then ?_))
    refine cw_cond rfl (fun hw => ?_) (fun hw => ?_)
    · have hw : ¬ askC ⟨c, l⟩ a.ask = 0 := by simpa using hw
      (repeat (first | refine cw_seq ?_ | refine cw_region ?_))
      refine lw_load_agg hT rfl rfl rfl (vs := encR c (.slice aL l.length cL)) (hb24.rd 0 2) ?_
      (repeat (refine lw_pure hT rfl ?_))
      refine lw_store_agg hT rfl rfl rfl rfl (by intro v hv; simp [encR] at hv; rcases hv with rfl | rfl <;> rfl) hb44 (show (2 : Nat) ≤ 2 by decide) ?_
      intro w5 hb5 hx5 hs5
      (repeat (first | refine lw_pure hT rfl ?_ | refine lw_nil ?_ | refine qw_then ?_ | refine cw_ret ?_ | refine qw_then_ret ?_))
      have had : doA ⟨c, l⟩ a = ⟨c, l⟩ := by unfold doA; rw [if_neg h0, if_neg hw]
      have hx05 : Ex w w5 := hx04.up_new hx5 (fun i hi => by omega)
      refine qw_ret_cell hT rfl rfl rfl rfl (vs := encR c (.slice aL l.length cL)) (hb5.rd 0 2) rfl ⟨⟨_, gs, by rw [hac]; rfl, ?_⟩, hx05⟩
      rw [had]
      exact (hF.ex hx05).weaken fun _ h => .inl h
    · have hw : askC ⟨c, l⟩ a.ask = 0 := by simpa using hw
      have had : doA ⟨c, l⟩ a = RegD.upd ⟨c, l⟩ a.bill (·.after a) := by unfold doA; rw [if_neg h0, if_pos hw]
      rw [hac, had, hw]
      have hF4 := hF0.ex hx04
      rcases fidx_cases l a.bill with ⟨hi, hat⟩ | ⟨i, hil, hi, hat⟩
      · exfalso
        have : RegD.at? ⟨c, l⟩ a.ask.bill = none := by rw [hbill]; exact hat
        simp [askC, this] at hw
      obtain ⟨x, g, bL, oL, cL', hx_, hg_, hv, hrd, hE⟩ := hF4.row hil
      cases hv
      have hxi : x = l[i] := by rw [List.getElem?_eq_getElem hil] at hx_; exact (Option.some.inj hx_).symm
      have hask : askE x a.ask = 0 := by
        have : RegD.at? ⟨c, l⟩ a.ask.bill = some l[i] := by rw [hbill]; exact hat
        simp only [askC, this] at hw; rw [hxi]; exact hw
      have hwr : wrongE x a = 0 := (wrongE_eq hk1).trans hask
      have hbi : badIx a = false := by
        cases h : badIx a with
        | false => rfl
        | true => unfold wrongE at hwr; rw [if_pos h] at hwr; cases hwr
      obtain ⟨eW, eI, eN⟩ := goodIx hk1 hbi
      (repeat (first | refine cw_seq ?_ | refine cw_region ?_ | refine qw_then ?_ | refine cw_skip ?_))
      refine lw_load_agg hT rfl rfl rfl (vs := encR c (.slice (some ⟨bL, oL, none⟩) l.length cL)) (hb24.rd 0 2) ?_
      (repeat (refine lw_pure hT rfl ?_))
      refine lw_load hT rfl rfl (v := .string a.bill) (hb34.cell 3) ?_
      skip
      refine lw_call hT rfl rfl (r23_Find c a.bill hF4) ?_
      rintro _ w5 ⟨rfl, hx5⟩
      rw [hi]
      have hb25 := hb24.ex hx5
      have hb35 := hb34.ex hx5
      have hb45 := hb44.ex hx5
      have hE5 := hE.ex hx5
      have hl5 := hx5.size
      (repeat (first | refine lw_pure hT rfl ?_ | refine lw_nil ?_ | refine cw_seq ?_ | refine cw_region ?_ | refine qw_then ?_))
      refine lw_load hT rfl rfl (v := .slice (some ⟨bL, oL, none⟩) l.length cL) (hb25.cell 1) ?_
      (repeat (refine lw_pure hT rfl ?_))
      refine lw_index hT rfl rfl rfl i rfl hil ?_
      skip
      refine lw_load_agg hT rfl rfl rfl (vs := entF (x, g)) (hrd.ex hx5) ?_
      skip
      refine lw_alloc z56 ?_
      intro b8 w6 hbb8 hb8 hx6 hs6
      skip
      refine lw_store_agg hT rfl rfl rfl rfl (entF_one hE) hb8 (show (11 : Nat) ≤ 11 by decide) ?_
      intro w7 hb87 hx7 hs7
      replace hb87 : Blk w7 b8 (entF (x, g)) 56 := hb87
      have hx57 : Ex w5 w7 := hx6.up_new hx7 (fun i hi => by omega)
      (repeat (first | refine lw_nil ?_ | refine cw_seq ?_ | refine cw_region ?_ | refine qw_then ?_))
      refine lw_buildSlice sl54 rfl rfl rfl ?_
      intro e1 w8 he1 hbe1 hx8 hs8
      (repeat (refine lw_pure hT rfl ?_))
      refine lw_load hT rfl rfl (v := g.vP) ((hb87.ex hx8).cell 10) ?_
      skip
      have hown1 : w8.ownsRow w7.heap.size 126 3 (.slice (some ⟨e1, 0, none⟩) 0 0) 0 [] := own_lit hbe1 (by omega) rfl (by decide)
      have hE8 := (hE5.ex hx57).ex hx8
      have hpl : ((x.ps.zip g.vcs).map papRow).length = 3 := by simp [hE.three, hE.three']
      refine lw_append_sl sl54 (by decide) rfl hown1 rfl hE8.papers (by
        intro r hr u hu
        obtain ⟨⟨q, vc⟩, hz, rfl⟩ := List.mem_map.1 hr
        obtain ⟨j, hj⟩ := List.getElem?_of_mem hz
        rw [List.getElem?_zip_eq_some] at hj
        simp [papRow] at hu
        rcases hu with rfl | rfl | rfl <;> first | rfl | exact Sl.one (hE8.chains j q _ hj.1 hj.2)) (by rw [hpl]; decide) (by rw [hpl]; decide) (by omega) ?_
      intro v9 w9 g1 g2 g3 g4
      rw [hpl] at g1
      rcases g1.2 with ⟨_, hz⟩ | ⟨bq, capq, cur, rfl, hbq, hbqb, hq1, hq2, hq3, hq4⟩
      · cases hz
      have hl9 := g2.size
      have hx79 : Ex w7 w9 := hx8.up_new g2 (fun i h => by simp [Value.ownBlock] at h; omega)
      have hx59 := hx57.trans hx79
      have hbql : bq < w9.heap.size := (own_base g1 rfl).2
      have hP9 : PapsAt (fun b => (A0' b ∨ w.heap.size ≤ b) ∧ (b ≠ bq ∧ b ≠ b8 ∧ b ≠ b2 ∧ b ≠ b4)) w9 bq x.ps g.vcs (cur.toList.drop 9) := by
        refine ⟨hE.three, hE.three', ?_, fun j q vc h1 h2 => ((hE5.ex hx59).chains j q vc h1 h2).weaken fun b hb => ⟨.inl hb.1, by have := hb.2; have := hx04.size; omega, by have := hb.2; have := hx04.size; omega, by have := hb.2; omega, by have := hb.2; have := hx03.size; omega⟩⟩
        have e : cur.toList = (rowsOf x.ps g.vcs).flatten ++ cur.toList.drop 9 := by
          have : (rowsOf x.ps g.vcs).flatten = cur.toList.take 9 := by rw [hq4]; rfl
          rw [this, List.take_append_drop]
        unfold Blk; rw [← e]; exact hbqb
      have hb29 := hb25.ex hx59
      have hb39 := hb35.ex hx59
      (repeat (first | refine lw_pure hT rfl ?_ | refine lw_nil ?_ | refine cw_seq ?_ | refine cw_region ?_ | refine qw_then ?_))
      refine lw_load_agg hT rfl rfl rfl (vs := encAct a vb vp) (hb39.rd 0 15) ?_
      skip
      refine lw_call hT rfl rfl (r23_which a vb vp w9) ?_
      rintro v10 w10 ⟨hv10, hx10⟩
      have hP10 : PapsAt (fun b => (A0' b ∨ w.heap.size ≤ b) ∧ (b ≠ bq ∧ b ≠ b8 ∧ b ≠ b2 ∧ b ≠ b4)) w10 bq x.ps g.vcs (cur.toList.drop 9) := ⟨hP9.three, hP9.three', hP9.blk.ex hx10, fun j q vc h1 h2 => (hP9.chains j q vc h1 h2).ex hx10⟩
      have hl10 := hx10.size
      have hb310 := hb39.ex hx10
      have hnn : ((whichD a).map fun i => [Value.int .i64 i]) ≠ [] := by rw [eW]; simp; exact eN
      have hwl : (whichD a).length = (whichN a).length := by rw [eW]; simp
      have hwm := hv10.small
      obtain ⟨va, vcap, hv7e, _, hvr⟩ := hv10.is
      subst hv7e
      obtain ⟨bw, ow, rfl, hbw, hwrd⟩ := hvr hnn
      simp only [List.length_map] at hwm ⊢
      unfold maxLen at hwm
      have hlen3 : (whichN a).length ≤ 3 := by rw [eI, ← ixs_eq]; exact Nat.le_trans (List.length_filter_le _ _) (by simp)
      have get : ∀ j, j < (whichN a).length → ∃ k, (whichN a)[j]? = some k ∧ k < 3 ∧ w10.cell? ⟨bw, ow + j * 1, none⟩ = some (.int .i64 (k : Nat)) := by
        intro j hj
        refine ⟨(whichN a)[j], List.getElem?_eq_getElem hj, ixs_lt (index := a.ask.index) (by rw [← eI]; exact List.getElem_mem hj), ?_⟩
        have h1 : ((whichD a).map fun i => [Value.int .i64 i])[j]? = some [.int .i64 ((whichN a)[j] : Nat)] := by
          rw [eW, List.map_map, List.getElem?_map, List.getElem?_eq_getElem hj]; rfl
        exact (hwrd j _ h1).2 0 _ rfl
      rw [hwl]
      (repeat (first | refine lw_pure hT rfl ?_ | refine lw_nil ?_ | refine cw_seq ?_ | refine cw_region ?_ | refine qw_then ?_ | refine cw_block ?_))
      refine cw_loop (fun j : Nat => [(2, pB b2), (3, pB b3), (4, pB b4), (7, .int .i64 (i : Nat)), (8, pB b8), (9, .slice (some ⟨bq, 0, none⟩) 3 capq), (10, .slice (some ⟨bw, ow, none⟩) (whichN a).length vcap), (11, .int .i64 (j : Nat))])
        (fun j w' => j ≤ (whichN a).length ∧ Ext (· = bq) w10 w' ∧ ∃ vcs, PapsAt (fun b => (A0' b ∨ w.heap.size ≤ b) ∧ (b ≠ bq ∧ b ≠ b8 ∧ b ≠ b2 ∧ b ≠ b4)) w' bq (onIx ((whichN a).take j) (fD a) x.ps) vcs (cur.toList.drop 9)) (fun j => (whichN a).length - j) 0 (by repeat (first | exact trivial | refine ⟨rfl, ?_⟩)) ⟨Nat.zero_le _, Ext.refl _ _, g.vcs, ?_⟩ ?_
      · have : onIx ((whichN a).take 0) (fD a) x.ps = x.ps := by
          obtain ⟨q0, q1, q2, hq⟩ := three_cases hE.three
          rw [hq]; rfl
        rw [this]; exact hP10
      rintro j w11 ⟨hj, hx11, vcs, hP11⟩
      unfold pB
      have hb311 := hb310.ext hx11 (by have := hb310.lt; omega)
      have hl11 := hx11.size
      (repeat (first | refine lw_pure hT rfl ?_ | refine lw_nil ?_ | refine cw_seq ?_ | refine cw_region ?_ | refine qw_then ?_))
      refine cw_cond rfl (fun h => ?_) (fun h => ?_)
      · have hlt : j < (whichN a).length := by have := of_decide_eq_true h; omega
        obtain ⟨k, hkj, hk3, hcell⟩ := get j hlt
        have hkk : (ixs a.ask.index)[j]? = some k := by rw [← eI]; exact hkj
        obtain ⟨st1, st2⟩ := onIx_step (fD a) hE.three hkk
        rw [← eI] at st1 st2
        obtain ⟨q, hq0⟩ : ∃ q, x.ps[k]? = some q := ⟨_, papAt_get hE.three hk3⟩
        have hqk := st2.trans hq0
        obtain ⟨vc, hvk⟩ : ∃ vc, vcs[k]? = some vc := ⟨_, List.getElem?_eq_getElem (by rw [hP11.three']; exact hk3)⟩
        have hchk := hP11.chains _ _ _ hqk hvk
        have hqm := List.mem_of_getElem? hq0
        have hrow : Rd w11 bq (0 + k * 3) [.int .i64 q.state, .string q.holder, vc] := by
          have := hP11.blk.rd (k * 3) 3
          rw [row_take hP11.three hP11.three' hk3 hqk hvk] at this
          rwa [Nat.zero_add]
        (repeat (first | refine lw_pure hT rfl ?_ | refine cw_seq ?_ | refine cw_region ?_ | refine qw_then ?_ | refine cw_skip ?_ | refine cw_block ?_))
        refine lw_index hT rfl rfl rfl j rfl hlt ?_
        skip
        refine lw_load hT rfl rfl (v := .int .i64 (k : Nat)) (hx11.cell hcell (by have := hbw; omega)) ?_
        skip
        refine lw_index hT rfl rfl rfl k rfl hk3 ?_
        skip
        refine lw_load_agg hT rfl rfl rfl hrow ?_
        skip
        refine lw_alloc z126 ?_
        intro b12 w12 hbb12 hb12 hx12 hs12
        skip
        refine lw_store_agg hT rfl rfl rfl rfl (by intro v hv; simp at hv; rcases hv with rfl | rfl | rfl <;> first | rfl | exact Sl.one hchk) hb12 (show (3 : Nat) ≤ 3 by decide) ?_
        intro w13 hb13 hx13 hs13
        replace hb13 : Blk w13 b12 [.int .i64 q.state, .string q.holder, vc] 126 := hb13
        refine lw_nil ?_
        refine qw_then ?_
        refine cw_seq ?_
        refine cw_then_cut (α := Value) (fun u => [(2, pB b2), (3, pB b3), (4, pB b4), (7, .int .i64 (i : Nat)), (8, pB b8), (9, .slice (some ⟨bq, 0, none⟩) 3 capq), (10, .slice (some ⟨bw, ow, none⟩) (whichN a).length vcap), (11, .int .i64 (j : Nat)), (12, pB b12)])
          (fun u w' => Ex w11 w' ∧ Blk w' b12 [.int .i64 (fD a q).state, .string (fD a q).holder, u] 126 ∧ SlE (fun b => (A0' b ∨ w.heap.size ≤ b) ∧ (b ≠ bq ∧ b ≠ b8 ∧ b ≠ b2 ∧ b ≠ b4)) w' u (fD a q).chain) ?_ ?_
        · have hx1113 : Ex w11 w13 := hx12.up_new hx13 (fun i hi => by omega)
          have hb313 := hb311.ex hx1113
          have hch13 := hchk.ex hx1113
          unfold pB
          have hks : a.kind = 1 ∨ a.kind = 2 ∨ a.kind = 3 ∨ a.kind = 4 ∨ a.kind = 5 := by omega
          (repeat (first | refine lw_pure hT rfl ?_ | refine cw_seq ?_ | refine cw_region ?_))
          refine lw_load hT rfl rfl (v := .int .i64 a.kind) (hb313.cell 0) ?_
          (repeat (first | refine lw_pure hT rfl ?_ | refine lw_nil ?_ | refine cw_seq ?_ | refine cw_region ?_ | refine qw_then ?_ | refine cw_block ?_))
          refine cw_cond rfl (fun h1 => ?_) (fun h1 => ?_)
          · have h1 : a.kind = 1 := by simpa using h1
            have efD : fD a = endorseP a.by_ a.to_ a.day := by unfold fD; rw [if_pos h1]
            rw [efD]
            (repeat (first | refine lw_pure hT rfl ?_ | refine cw_seq ?_ | refine cw_region ?_))
            refine lw_load hT rfl rfl (v := .string a.to_) (hb313.cell 5) ?_
            (repeat (refine lw_pure hT rfl ?_))
            refine lw_store (size := 1) hT rfl rfl rfl rfl hb13 (show (1 : Nat) < 3 by decide) ?_
            intro w15 hb15 hx15 hs15
            replace hb15 : Blk w15 b12 [.int .i64 q.state, .string a.to_, vc] 126 := hb15
            have hx1115 : Ex w11 w15 := hx1113.up_new hx15 (fun i hi => by omega)
            have hb315 := hb311.ex hx1115
            have hch15 : SlE (fun b => (A0' b ∨ w.heap.size ≤ b) ∧ (b ≠ bq ∧ b ≠ b8 ∧ b ≠ b2 ∧ b ≠ b4)) w15 vc q.chain := hchk.ex hx1115
            have hqs : q.chain.length ≤ 1000000 := (hsm x (List.mem_of_getElem? hx_)).1 _ hqm
            have hl15 := hx1115.size
            have fin17 : ∀ (u2 : Value) (wa wb : World), Ex w15 wa → Ext (· = b12) wa wb → Blk wb b12 ([.int .i64 q.state, .string a.to_, vc].set 2 u2) 126 →
                wa.ownsRow w15.heap.size 139 4 u2 (q.chain.length + 1) ((q.chain.map encE).flatten ++ encE (newE a.by_ a.to_ a.day)) →
                Ex w11 wb ∧ Blk wb b12 [.int .i64 (endorseP a.by_ a.to_ a.day q).state, .string (endorseP a.by_ a.to_ a.day q).holder, u2] 126 ∧ SlE (fun b => (A0' b ∨ w.heap.size ≤ b) ∧ (b ≠ bq ∧ b ≠ b8 ∧ b ≠ b2 ∧ b ≠ b4)) wb u2 (endorseP a.by_ a.to_ a.day q).chain := by
              intro u2 wa wb hxa hxb hblk how
              have hla := hxa.size
              refine ⟨(hx1115.trans hxa).up_new hxb (fun i hi => by omega), hblk, ?_⟩
              have how' := own_ext how hxb (fun k hk e => by have := own_base how hk; have := hb15.lt; omega)
              refine own_sl (base := w15.heap.size) (e := 139) ?_ encE_len (fun k hk => ?_)
              · simp only [endorseP, List.length_map, List.length_append, List.length_singleton, List.map_append, List.flatten_append]
                exact how'
              · have := own_base how hk
                have := hx04.size
                exact ⟨.inr (by omega), by omega, by omega, by omega, by omega⟩
            (repeat (first | refine lw_nil ?_ | refine qw_then ?_))
            refine cw_draw hM (fun w' => Ex w15 w') [14] rfl rfl (by repeat with_reducible (first | refine nop_then ?_ | refine nop_block ?_ | exact nop_body)) (fun w16 hx16 _ => ⟨hx16, ?_⟩)
            (refine rw_takeP 1 rfl rfl (by kernel_rfl) (by kernel_rfl) (by kernel_rfl) (by kernel_rfl) rfl (yo_pure hT rfl) ?_)
            refine rw_take 2 rfl rfl (by kernel_rfl) (by kernel_rfl) (by kernel_rfl) (by kernel_rfl) rfl (yo_load hT rfl rfl (fun w' hS => Ex.cell hS (hb15.cell 2))) ?_
            (refine rw_takeP 4 rfl rfl (by kernel_rfl) (by kernel_rfl) (by kernel_rfl) (by kernel_rfl) rfl (yo_pure hT rfl) ?_)
            refine rw_take 5 rfl rfl (by kernel_rfl) (by kernel_rfl) (by kernel_rfl) (by kernel_rfl) rfl (yo_load hT rfl rfl (v := .string a.by_) (fun w' hS => Ex.cell hS (hb315.cell 4))) ?_
            (refine rw_takeP 6 rfl rfl (by kernel_rfl) (by kernel_rfl) (by kernel_rfl) (by kernel_rfl) rfl (yo_pure hT rfl) ?_)
            refine rw_take 7 rfl rfl (by kernel_rfl) (by kernel_rfl) (by kernel_rfl) (by kernel_rfl) rfl (yo_load hT rfl rfl (v := .string a.to_) (fun w' hS => Ex.cell hS (hb315.cell 5))) ?_
            (refine rw_takeP 8 rfl rfl (by kernel_rfl) (by kernel_rfl) (by kernel_rfl) (by kernel_rfl) rfl (yo_pure hT rfl) ?_)
            refine rw_take 9 rfl rfl (by kernel_rfl) (by kernel_rfl) (by kernel_rfl) (by kernel_rfl) rfl (yo_load hT rfl rfl (v := .int .i64 a.day) (fun w' hS => Ex.cell hS (hb315.cell 2))) ?_
            refine rw_takeP 10 rfl rfl (by kernel_rfl) (by kernel_rfl) (by kernel_rfl) (by kernel_rfl) rfl (yo_build bt139 rfl) ?_
            refine rw_two 0 11 rfl rfl (by kernel_rfl) rfl rfl (fun hcl => ?_) (fun hcl => ?_)
            · refine lw_buildSlice sl82 rfl rfl rfl ?_
              intro e0 w17 he0 hbe0 hx17 hs17
              have hC17 := hx16.trans hx17
              have own17 : w17.ownsRow w15.heap.size 139 4 (.slice (some ⟨e0, 0, none⟩) 0 0) 0 [] := own_lit hbe0 (by have := hx16.size; omega) rfl (by decide)
              (repeat (refine lw_nil ?_))
              refine qw_rw (by repeat with_reducible (first | refine nop_then ?_ | refine nop_block ?_ | exact nop_body)) hcl (fun _ => hC17) ?_
              refine rw_two 3 11 rfl rfl (by kernel_rfl) rfl rfl (fun hcl => ?_) (fun hcl => ?_)
              · refine lw_append_sl sl82 (by decide) rfl own17 rfl (hch15.ex hC17) encE_one (by simp [maxLen]; omega) (by simp; omega) (by have := hC17.size; omega) ?_
                intro u1 w18 g1 g2 g3 g4
                have hC18 : Ex w15 w18 := hC17.up_new g2 (fun i h => by simp [Value.ownBlock] at h; have := hx16.size; have := hC17.size; omega)
                rw [Nat.zero_add, List.nil_append, List.length_map] at g1
                (repeat (refine lw_nil ?_))
                refine qw_rw (by repeat with_reducible (first | refine nop_then ?_ | refine nop_block ?_ | exact nop_body)) hcl (fun _ => hC18) ?_
                refine rw_one 11 rfl (by kernel_rfl) rfl (fun hcl => ?_)
                refine lw_buildSlice sl82 rfl rfl rfl ?_
                intro e11 w19 he11 hbe11 hx19 hs19
                replace hbe11 : Blk w19 e11 (encE (newE a.by_ a.to_ a.day)) 139 := hbe11
                have hC19 := hC18.trans hx19
                have own19 := own_ex g1 hx19
                (repeat (refine lw_nil ?_))
                refine qw_rw (by repeat with_reducible (first | refine nop_then ?_ | refine nop_block ?_ | exact nop_body)) hcl (fun _ => hC19) ?_
                refine rw_one 12 rfl (by kernel_rfl) rfl (fun hcl => ?_)
                refine lw_append sl82 (by decide) rfl own19 rfl (hbe11.rd 0 4) rfl (by intro u hu; simp [encE] at hu; rcases hu with rfl | rfl | rfl | rfl <;> rfl) (by unfold maxLen; omega) (by omega) (by have := hC19.size; omega) ?_
                intro u2 w20 k1 k2 k3 k4
                have hu1b : ∀ k, Value.ownBlock u1 = some k → w15.heap.size ≤ k := fun k hk => (own_base g1 hk).1
                have hC20 : Ex w15 w20 := hC19.up_new k2 (fun i h => hu1b i h.symm)
                (repeat (refine lw_nil ?_))
                refine qw_rw (by repeat with_reducible (first | refine nop_then ?_ | refine nop_block ?_ | exact nop_body)) hcl (fun _ => hC20) ?_
                (refine rw_takeP 13 rfl rfl (by kernel_rfl) (by kernel_rfl) (by kernel_rfl) (by kernel_rfl) rfl (yo_pure hT rfl) ?_)
                refine rw_one 14 rfl (by kernel_rfl) rfl (fun hcl => ?_)
                refine lw_store (size := 1) hT rfl rfl rfl (own_one k1) (hb15.ex hC20) (show (2 : Nat) < 3 by decide) ?_
                intro w21 hbz hxz hsz
                (repeat (refine lw_nil ?_))
                refine qw_rw (by repeat with_reducible (first | refine nop_then ?_ | refine nop_block ?_ | exact nop_body)) hcl (fun h => absurd h (by decide)) ?_
                refine rw_done (by kernel_rfl) ?_
                (repeat (refine qw_block ?_))
                exact qw_cut u2 (by repeat (first | exact trivial | refine ⟨rfl, ?_⟩)) (fin17 u2 w20 w21 hC20 hxz hbz k1)
              · refine lw_buildSlice sl82 rfl rfl rfl ?_
                intro e11 w18 he11 hbe11 hx18 hs18
                replace hbe11 : Blk w18 e11 (encE (newE a.by_ a.to_ a.day)) 139 := hbe11
                have hC18 := hC17.trans hx18
                have own18 := own_ex own17 hx18
                (repeat (refine lw_nil ?_))
                refine qw_rw (by repeat with_reducible (first | refine nop_then ?_ | refine nop_block ?_ | exact nop_body)) hcl (fun _ => hC18) ?_
                refine rw_one 3 rfl (by kernel_rfl) rfl (fun hcl => ?_)
                refine lw_append_sl sl82 (by decide) rfl own18 rfl (hch15.ex hC18) encE_one (by simp [maxLen]; omega) (by simp; omega) (by have := hC18.size; omega) ?_
                intro u1 w19 g1 g2 g3 g4
                have hC19 : Ex w15 w19 := hC18.up_new g2 (fun i h => by simp [Value.ownBlock] at h; have := hx16.size; have := hC17.size; omega)
                rw [Nat.zero_add, List.nil_append, List.length_map] at g1
                have be19 := hbe11.ext g2 (by simp [Value.ownBlock]; have := hC18.size; omega)
                (repeat (refine lw_nil ?_))
                refine qw_rw (by repeat with_reducible (first | refine nop_then ?_ | refine nop_block ?_ | exact nop_body)) hcl (fun _ => hC19) ?_
                refine rw_one 12 rfl (by kernel_rfl) rfl (fun hcl => ?_)
                refine lw_append sl82 (by decide) rfl g1 rfl (be19.rd 0 4) rfl (by intro u hu; simp [encE] at hu; rcases hu with rfl | rfl | rfl | rfl <;> rfl) (by unfold maxLen; omega) (by omega) (by have := hC19.size; omega) ?_
                intro u2 w20 k1 k2 k3 k4
                have hu1b : ∀ k, Value.ownBlock u1 = some k → w15.heap.size ≤ k := fun k hk => (own_base g1 hk).1
                have hC20 : Ex w15 w20 := hC19.up_new k2 (fun i h => hu1b i h.symm)
                (repeat (refine lw_nil ?_))
                refine qw_rw (by repeat with_reducible (first | refine nop_then ?_ | refine nop_block ?_ | exact nop_body)) hcl (fun _ => hC20) ?_
                (refine rw_takeP 13 rfl rfl (by kernel_rfl) (by kernel_rfl) (by kernel_rfl) (by kernel_rfl) rfl (yo_pure hT rfl) ?_)
                refine rw_one 14 rfl (by kernel_rfl) rfl (fun hcl => ?_)
                refine lw_store (size := 1) hT rfl rfl rfl (own_one k1) (hb15.ex hC20) (show (2 : Nat) < 3 by decide) ?_
                intro w21 hbz hxz hsz
                (repeat (refine lw_nil ?_))
                refine qw_rw (by repeat with_reducible (first | refine nop_then ?_ | refine nop_block ?_ | exact nop_body)) hcl (fun h => absurd h (by decide)) ?_
                refine rw_done (by kernel_rfl) ?_
                (repeat (refine qw_block ?_))
                exact qw_cut u2 (by repeat (first | exact trivial | refine ⟨rfl, ?_⟩)) (fin17 u2 w20 w21 hC20 hxz hbz k1)
            · refine lw_buildSlice sl82 rfl rfl rfl ?_
              intro e11 w17 he11 hbe11 hx17 hs17
              replace hbe11 : Blk w17 e11 (encE (newE a.by_ a.to_ a.day)) 139 := hbe11
              have hC17 := hx16.trans hx17
              (repeat (refine lw_nil ?_))
              refine qw_rw (by repeat with_reducible (first | refine nop_then ?_ | refine nop_block ?_ | exact nop_body)) hcl (fun _ => hC17) ?_
              refine rw_one 0 rfl (by kernel_rfl) rfl (fun hcl => ?_)
              refine lw_buildSlice sl82 rfl rfl rfl ?_
              intro e0 w18 he0 hbe0 hx18 hs18
              have hC18 := hC17.trans hx18
              have own18 : w18.ownsRow w15.heap.size 139 4 (.slice (some ⟨e0, 0, none⟩) 0 0) 0 [] := own_lit hbe0 (by have := hC17.size; omega) rfl (by decide)
              have be18 := hbe11.ex hx18
              (repeat (refine lw_nil ?_))
              refine qw_rw (by repeat with_reducible (first | refine nop_then ?_ | refine nop_block ?_ | exact nop_body)) hcl (fun _ => hC18) ?_
              refine rw_one 3 rfl (by kernel_rfl) rfl (fun hcl => ?_)
              refine lw_append_sl sl82 (by decide) rfl own18 rfl (hch15.ex hC18) encE_one (by simp [maxLen]; omega) (by simp; omega) (by have := hC18.size; omega) ?_
              intro u1 w19 g1 g2 g3 g4
              have hC19 : Ex w15 w19 := hC18.up_new g2 (fun i h => by simp [Value.ownBlock] at h; have := hx16.size; have := hC17.size; omega)
              rw [Nat.zero_add, List.nil_append, List.length_map] at g1
              have be19 := be18.ext g2 (by simp [Value.ownBlock]; have := hC18.size; omega)
              (repeat (refine lw_nil ?_))
              refine qw_rw (by repeat with_reducible (first | refine nop_then ?_ | refine nop_block ?_ | exact nop_body)) hcl (fun _ => hC19) ?_
              refine rw_one 12 rfl (by kernel_rfl) rfl (fun hcl => ?_)
              refine lw_append sl82 (by decide) rfl g1 rfl (be19.rd 0 4) rfl (by intro u hu; simp [encE] at hu; rcases hu with rfl | rfl | rfl | rfl <;> rfl) (by unfold maxLen; omega) (by omega) (by have := hC19.size; omega) ?_
              intro u2 w20 k1 k2 k3 k4
              have hu1b : ∀ k, Value.ownBlock u1 = some k → w15.heap.size ≤ k := fun k hk => (own_base g1 hk).1
              have hC20 : Ex w15 w20 := hC19.up_new k2 (fun i h => hu1b i h.symm)
              (repeat (refine lw_nil ?_))
              refine qw_rw (by repeat with_reducible (first | refine nop_then ?_ | refine nop_block ?_ | exact nop_body)) hcl (fun _ => hC20) ?_
              (refine rw_takeP 13 rfl rfl (by kernel_rfl) (by kernel_rfl) (by kernel_rfl) (by kernel_rfl) rfl (yo_pure hT rfl) ?_)
              refine rw_one 14 rfl (by kernel_rfl) rfl (fun hcl => ?_)
              refine lw_store (size := 1) hT rfl rfl rfl (own_one k1) (hb15.ex hC20) (show (2 : Nat) < 3 by decide) ?_
              intro w21 hbz hxz hsz
              (repeat (refine lw_nil ?_))
              refine qw_rw (by repeat with_reducible (first | refine nop_then ?_ | refine nop_block ?_ | exact nop_body)) hcl (fun h => absurd h (by decide)) ?_
              refine rw_done (by kernel_rfl) ?_
              (repeat (refine qw_block ?_))
              exact qw_cut u2 (by repeat (first | exact trivial | refine ⟨rfl, ?_⟩)) (fin17 u2 w20 w21 hC20 hxz hbz k1)
          · have h1 : ¬ a.kind = 1 := by simpa using h1
            (repeat (first | refine lw_pure hT rfl ?_ | refine lw_nil ?_ | refine cw_seq ?_ | refine cw_region ?_ | refine qw_then ?_))
            refine cw_cond rfl (fun h3 => ?_) (fun h3 => ?_)
            · have h3 : a.kind = 3 := by simpa using h3
              have efD : fD a = stateP 3 := by unfold fD; rw [if_neg h1, if_pos h3]
              rw [efD]
              (repeat (first | refine lw_pure hT rfl ?_ | refine cw_region ?_))
              refine lw_store (size := 1) hT rfl rfl rfl rfl hb13 (show (0 : Nat) < 3 by decide) ?_
              intro w15 hb15 hx15 hs15
              (repeat (first | refine lw_nil ?_ | refine qw_block ?_))
              exact qw_cut _ (by repeat (first | exact trivial | refine ⟨rfl, ?_⟩)) ⟨hx1113.up_new hx15 (fun i hi => by omega), hb15, hchk.ex (hx1113.up_new hx15 (fun i hi => by omega))⟩
            · have h3 : ¬ a.kind = 3 := by simpa using h3
              (repeat (first | refine lw_pure hT rfl ?_ | refine lw_nil ?_ | refine cw_seq ?_ | refine cw_region ?_ | refine qw_then ?_))
              refine cw_cond rfl (fun h4 => ?_) (fun h4 => ?_)
              · have h4 : a.kind = 4 := by simpa using h4
                have efD : fD a = stateP 0 := by unfold fD; rw [if_neg h1, if_neg h3, if_pos h4]
                rw [efD]
                (repeat (first | refine lw_pure hT rfl ?_ | refine cw_region ?_))
                refine lw_store (size := 1) hT rfl rfl rfl rfl hb13 (show (0 : Nat) < 3 by decide) ?_
                intro w15 hb15 hx15 hs15
                (repeat (first | refine lw_nil ?_ | refine qw_block ?_))
                exact qw_cut _ (by repeat (first | exact trivial | refine ⟨rfl, ?_⟩)) ⟨hx1113.up_new hx15 (fun i hi => by omega), hb15, hchk.ex (hx1113.up_new hx15 (fun i hi => by omega))⟩
              · have h4 : ¬ a.kind = 4 := by simpa using h4
                have efD : fD a = id := by unfold fD; rw [if_neg h1, if_neg h3, if_neg h4]
                rw [efD]
                (repeat (first | refine cw_skip ?_ | refine qw_block ?_))
                exact qw_cut _ (by repeat (first | exact trivial | refine ⟨rfl, ?_⟩)) ⟨hx1113, hb13, hch13⟩
        rintro u w14 ⟨hx14, hb14, hch14⟩
        have hx1014 : Ext (· = bq) w10 w14 := hx11.up hx14
        have hl14 := hx14.size
        have hP14 : Blk w14 bq ((rowsOf (onIx ((whichN a).take j) (fD a) x.ps) vcs).flatten ++ cur.toList.drop 9) 126 := hP11.blk.ex hx14
        unfold pB
        (repeat (refine qw_then ?_))
        refine cw_draw hM (fun w' => Ex w14 w') [7] rfl rfl (by repeat with_reducible (first | refine nop_then ?_ | refine nop_block ?_ | exact nop_body)) (fun w15 hx15 _ => ⟨hx15, ?_⟩)
        (refine rw_takeP 0 rfl rfl (by kernel_rfl) (by kernel_rfl) (by kernel_rfl) (by kernel_rfl) rfl (yo_pure hT rfl) ?_; refine rw_takeP 1 rfl rfl (by kernel_rfl) (by kernel_rfl) (by kernel_rfl) (by kernel_rfl) rfl (yo_pure hT rfl) ?_; refine rw_takeP 2 rfl rfl (by kernel_rfl) (by kernel_rfl) (by kernel_rfl) (by kernel_rfl) rfl (yo_pure hT rfl) ?_)
        refine rw_takeP 3 rfl rfl (by kernel_rfl) (by kernel_rfl) (by kernel_rfl) (by kernel_rfl) rfl (yo_index hT rfl rfl rfl j rfl hlt) ?_
        refine rw_take 4 rfl rfl (by kernel_rfl) (by kernel_rfl) (by kernel_rfl) (by kernel_rfl) rfl (yo_load hT rfl rfl (v := .int .i64 (k : Nat)) (fun w' hS => Ex.cell hS (hx1014.cell hcell (by have := hbw; omega)))) ?_
        refine rw_take 5 rfl rfl (by kernel_rfl) (by kernel_rfl) (by kernel_rfl) (by kernel_rfl) rfl (yo_load_agg hT rfl rfl rfl (fun w' hS => (hb14.ex hS).rd 0 3)) ?_
        refine rw_takeP 6 rfl rfl (by kernel_rfl) (by kernel_rfl) (by kernel_rfl) (by kernel_rfl) rfl (yo_index hT rfl rfl rfl k rfl hk3) ?_
        refine rw_one 7 rfl (by kernel_rfl) rfl (fun hcl => ?_)
        refine lw_store_agg hT rfl rfl rfl rfl (by intro v hv; simp at hv; rcases hv with rfl | rfl | rfl <;> first | rfl | exact Sl.one hch14) (hP14.ex hx15) (show 0 + k * 3 + 3 ≤ _ by rw [rows_len hP11.three hP11.three']; omega) ?_
        intro w16 hb16 hx16 hs16
        (repeat (refine lw_nil ?_))
        refine qw_rw (by repeat with_reducible (first | refine nop_then ?_ | refine nop_block ?_ | exact nop_body)) hcl (fun h => absurd h (by decide)) ?_
        refine rw_done (by kernel_rfl) ?_
        (repeat (first | (refine lw_add rfl rfl ?_ ?_ ?_; iterate 2 omega) | refine lw_pure hT rfl ?_ | refine lw_nil ?_ | refine cw_region ?_ | refine qw_then ?_ | refine qw_block ?_))
        have hxE : Ext (· = bq) w11 w16 := ((Ext.of_ex hx14).up hx15).trans hx16
        refine qw_round (j + 1) (by repeat (first | exact trivial | refine ⟨rfl, ?_⟩)) ⟨hlt, hx11.trans hxE, vcs.set k u, ?_⟩ (by omega)
        rw [st1, onIx_set hP11.three hk3 hqk]
        refine ⟨by simp [hP11.three], by simp [hP11.three'], ?_, ?_⟩
        · rw [← set_row hP11.three hP11.three' hk3 (fD a q) u]
          have e : 0 + k * 3 = k * 3 := Nat.zero_add _
          rw [e] at hb16; exact hb16
        · intro j' q' vc' hq' hvc'
          have hxu : Ext (· = bq) w14 w16 := (Ext.of_ex hx15).trans hx16
          by_cases e : k = j'
          · subst e
            rw [List.getElem?_set_self (by rw [hP11.three]; exact hk3)] at hq'
            rw [List.getElem?_set_self (by rw [hP11.three']; exact hk3)] at hvc'
            cases hq'; cases hvc'
            exact hch14.ext hxu (fun b hb => hb.2.1)
          · rw [List.getElem?_set_ne e] at hq' hvc'
            exact (hP11.chains j' q' vc' hq' hvc').ext hxE (fun b hb => hb.2.1)
      · have hjn : j = (whichN a).length := by have := of_decide_eq_false h; omega
        subst hjn
        rw [List.take_length] at hP11
        have hb811 : Blk w11 b8 (entF (x, g)) 56 := ((hb87.ex hx79).ex hx10).ext hx11 (by have := hb87.lt; omega)
        (repeat (first | refine cw_skip ?_ | refine cw_exit ?_ | refine qw_then_exit ?_ | refine qw_block_exit ?_ | refine qw_then ?_))
        refine cw_seq ?_
        have hb311 : Blk w11 b3 (encAct a vb vp) 73 := hb310.ext hx11 (by have := hb310.lt; omega)
        refine cw_then_cut (α := Unit) (fun _ => [(2, pB b2), (3, pB b3), (4, pB b4), (7, .int .i64 (i : Nat)), (8, pB b8), (9, .slice (some ⟨bq, 0, none⟩) 3 capq)])
          (fun _ w' => Ext (fun b => b = bq ∨ b = b8) w11 w' ∧ PapsAt (fun b => (A0' b ∨ w.heap.size ≤ b) ∧ (b ≠ bq ∧ b ≠ b8 ∧ b ≠ b2 ∧ b ≠ b4)) w' bq (midP a (onIx (whichN a) (fD a) x.ps)) vcs (cur.toList.drop 9) ∧ Blk w' b8 (entF ({ x with state := midS a x.state }, g)) 56) ?_ ?_
        · unfold pB
          (repeat (first | refine lw_pure hT rfl ?_ | refine cw_seq ?_ | refine cw_region ?_))
          refine lw_load hT rfl rfl (v := .int .i64 a.kind) (hb311.cell 0) ?_
          (repeat (refine lw_pure hT rfl ?_))
          refine lw_guard rfl (fun h2 => ?_) (fun h2 => ?_)
          · have hv : a.kind = 2 ∨ a.kind = 5 := .inl (by simpa using h2)
            (repeat (first | refine lw_pure hT rfl ?_ | refine lw_nil ?_ | refine cw_seq ?_ | refine cw_region ?_ | refine qw_then ?_ | (refine lw_goff_t rfl ?_ ?_; focus with_reducible (first | rfl | exact Bool.not_false | exact Bool.not_true)) | refine cw_block ?_ | (refine cw_cond_t rfl ?_ ?_; focus with_reducible (first | rfl | exact Bool.not_false | exact Bool.not_true))))
            refine cw_loop (fun t : Nat => [(2, .pointer (some ⟨b2, 0, none⟩)), (3, .pointer (some ⟨b3, 0, none⟩)), (4, .pointer (some ⟨b4, 0, none⟩)), (7, .int .i64 (i : Nat)), (8, .pointer (some ⟨b8, 0, none⟩)), (9, .slice (some ⟨bq, 0, none⟩) 3 capq), (13, .int .i64 (t : Nat))])
              (fun t w' => t ≤ 3 ∧ Ext (· = bq) w11 w' ∧ PapsAt (fun b => (A0' b ∨ w.heap.size ≤ b) ∧ (b ≠ bq ∧ b ≠ b8 ∧ b ≠ b2 ∧ b ≠ b4)) w' bq (voided (onIx (whichN a) (fD a) x.ps) t) vcs (cur.toList.drop 9)) (fun t => 3 - t) 0 (by repeat (first | exact trivial | refine ⟨rfl, ?_⟩)) ⟨by omega, Ext.refl _ _, hP11⟩ ?_
            rintro t w12 ⟨ht, hx12, hP12⟩
            (repeat (first | refine lw_pure hT rfl ?_ | refine lw_nil ?_ | refine cw_seq ?_ | refine cw_region ?_ | refine qw_then ?_))
            refine cw_cond rfl (fun h => ?_) (fun h => ?_)
            · have hlt : t < 3 := by have := of_decide_eq_true h; omega
              (repeat (first | refine lw_pure hT rfl ?_ | refine cw_seq ?_ | refine cw_region ?_ | refine qw_then ?_ | refine cw_skip ?_ | refine cw_block ?_))
              refine lw_index hT rfl rfl rfl t rfl hlt ?_
              (repeat (refine lw_pure hT rfl ?_))
              refine lw_store (size := 1) hT rfl rfl rfl rfl hP12.blk (show 0 + t * 3 + 0 < _ by rw [rows_len hP12.three hP12.three']; omega) ?_
              intro w13 hb13 hx13 hs13
              have e : 0 + t * 3 + 0 = t * 3 := by omega
              rw [e] at hb13
              have hP13 := hP12.states (fun b hb => hb.2.1) hlt 2 hx13 hb13
              rw [voided_step hP11.three hlt] at hP13
              (repeat (first | (refine lw_add rfl rfl ?_ ?_ ?_; iterate 2 omega) | refine lw_pure hT rfl ?_ | refine lw_nil ?_ | refine cw_region ?_ | refine qw_then ?_ | refine qw_block ?_))
              exact qw_round (t + 1) (by repeat (first | exact trivial | refine ⟨rfl, ?_⟩)) ⟨hlt, hx12.trans hx13, hP13⟩ (by omega)
            · have : t = 3 := by have := of_decide_eq_false h; omega
              subst this
              rw [voided_3 hP11.three] at hP12
              (repeat (first | refine lw_pure hT rfl ?_ | refine cw_region ?_ | refine qw_then ?_ | refine cw_exit ?_ | refine qw_block_exit ?_ | refine qw_then_exit ?_))
              refine lw_store (size := 1) hT rfl rfl rfl rfl (hb811.ext hx12 (by have := hb87.lt; omega)) (show (9 : Nat) < 11 by decide) ?_
              intro w13 hb13 hx13 hs13
              (repeat (refine lw_nil ?_))
              refine qw_cut () (by repeat (first | exact trivial | refine ⟨rfl, ?_⟩)) ⟨(hx12.mono fun _ _ h => .inl h).trans (hx13.mono fun _ _ h => .inr h), ?_, ?_⟩
              · unfold midP; rw [if_pos hv]
                exact ⟨hP12.three, hP12.three', hP12.blk.ext hx13 (by have := hb87.lt; omega), fun i' q' vc' h1 h2 => (hP12.chains i' q' vc' h1 h2).ext hx13 (fun b hb => hb.2.2.1)⟩
              · unfold midS; rw [if_pos hv]; exact hb13
          · (repeat (first | refine lw_pure hT rfl ?_ | (refine lw_gon_f rfl ?_ ?_; focus with_reducible (first | rfl | exact Bool.not_false | exact Bool.not_true))))
            refine lw_load hT rfl rfl (v := .int .i64 a.kind) (hb311.cell 0) ?_
            (repeat (first | refine lw_pure hT rfl ?_ | refine lw_nil ?_ | refine qw_then ?_ | (refine lw_gon_f rfl ?_ ?_; focus with_reducible (first | rfl | exact Bool.not_false | exact Bool.not_true))))
            refine cw_cond rfl (fun h5 => ?_) (fun h5 => ?_)
            · have hv : a.kind = 2 ∨ a.kind = 5 := .inr (by simpa using h5)
              (repeat (first | refine lw_pure hT rfl ?_ | refine lw_nil ?_ | refine cw_seq ?_ | refine cw_region ?_ | refine qw_then ?_ | refine cw_block ?_))
              refine cw_loop (fun t : Nat => [(2, .pointer (some ⟨b2, 0, none⟩)), (3, .pointer (some ⟨b3, 0, none⟩)), (4, .pointer (some ⟨b4, 0, none⟩)), (7, .int .i64 (i : Nat)), (8, .pointer (some ⟨b8, 0, none⟩)), (9, .slice (some ⟨bq, 0, none⟩) 3 capq), (13, .int .i64 (t : Nat))])
                (fun t w' => t ≤ 3 ∧ Ext (· = bq) w11 w' ∧ PapsAt (fun b => (A0' b ∨ w.heap.size ≤ b) ∧ (b ≠ bq ∧ b ≠ b8 ∧ b ≠ b2 ∧ b ≠ b4)) w' bq (voided (onIx (whichN a) (fD a) x.ps) t) vcs (cur.toList.drop 9)) (fun t => 3 - t) 0 (by repeat (first | exact trivial | refine ⟨rfl, ?_⟩)) ⟨by omega, Ext.refl _ _, hP11⟩ ?_
              rintro t w12 ⟨ht, hx12, hP12⟩
              (repeat (first | refine lw_pure hT rfl ?_ | refine lw_nil ?_ | refine cw_seq ?_ | refine cw_region ?_ | refine qw_then ?_))
              refine cw_cond rfl (fun h => ?_) (fun h => ?_)
              · have hlt : t < 3 := by have := of_decide_eq_true h; omega
                (repeat (first | refine lw_pure hT rfl ?_ | refine cw_seq ?_ | refine cw_region ?_ | refine qw_then ?_ | refine cw_skip ?_ | refine cw_block ?_))
                refine lw_index hT rfl rfl rfl t rfl hlt ?_
                (repeat (refine lw_pure hT rfl ?_))
                refine lw_store (size := 1) hT rfl rfl rfl rfl hP12.blk (show 0 + t * 3 + 0 < _ by rw [rows_len hP12.three hP12.three']; omega) ?_
                intro w13 hb13 hx13 hs13
                have e : 0 + t * 3 + 0 = t * 3 := by omega
                rw [e] at hb13
                have hP13 := hP12.states (fun b hb => hb.2.1) hlt 2 hx13 hb13
                rw [voided_step hP11.three hlt] at hP13
                (repeat (first | (refine lw_add rfl rfl ?_ ?_ ?_; iterate 2 omega) | refine lw_pure hT rfl ?_ | refine lw_nil ?_ | refine cw_region ?_ | refine qw_then ?_ | refine qw_block ?_))
                exact qw_round (t + 1) (by repeat (first | exact trivial | refine ⟨rfl, ?_⟩)) ⟨hlt, hx12.trans hx13, hP13⟩ (by omega)
              · have : t = 3 := by have := of_decide_eq_false h; omega
                subst this
                rw [voided_3 hP11.three] at hP12
                (repeat (first | refine lw_pure hT rfl ?_ | refine cw_region ?_ | refine qw_then ?_ | refine cw_exit ?_ | refine qw_block_exit ?_ | refine qw_then_exit ?_))
                refine lw_store (size := 1) hT rfl rfl rfl rfl (hb811.ext hx12 (by have := hb87.lt; omega)) (show (9 : Nat) < 11 by decide) ?_
                intro w13 hb13 hx13 hs13
                (repeat (refine lw_nil ?_))
                refine qw_cut () (by repeat (first | exact trivial | refine ⟨rfl, ?_⟩)) ⟨(hx12.mono fun _ _ h => .inl h).trans (hx13.mono fun _ _ h => .inr h), ?_, ?_⟩
                · unfold midP; rw [if_pos hv]
                  exact ⟨hP12.three, hP12.three', hP12.blk.ext hx13 (by have := hb87.lt; omega), fun i' q' vc' h1 h2 => (hP12.chains i' q' vc' h1 h2).ext hx13 (fun b hb => hb.2.2.1)⟩
                · unfold midS; rw [if_pos hv]; exact hb13
            · have hv : ¬ (a.kind = 2 ∨ a.kind = 5) := by simp at h2 h5; omega
              (repeat (refine cw_skip ?_))
              refine qw_cut () (by repeat (first | exact trivial | refine ⟨rfl, ?_⟩)) ⟨Ext.refl _ _, ?_, ?_⟩
              · unfold midP; rw [if_neg hv]; exact hP11
              · unfold midS; rw [if_neg hv]; exact hb811
        rintro _ w12 ⟨hx12, hP12, hb812⟩
        have hb312 : Blk w12 b3 (encAct a vb vp) 73 := hb311.ext hx12 (by have := hb310.lt; have := hb35.lt; rintro (h | h) <;> omega)
        refine qw_then ?_
        refine cw_seq ?_
        refine cw_then_cut (α := Unit) (fun _ => [(2, pB b2), (3, pB b3), (4, pB b4), (7, .int .i64 (i : Nat)), (8, pB b8), (9, .slice (some ⟨bq, 0, none⟩) 3 capq)])
          (fun _ w' => Ext (fun b => b = bq ∨ b = b8) w12 w' ∧ PapsAt (fun b => (A0' b ∨ w.heap.size ≤ b) ∧ (b ≠ bq ∧ b ≠ b8 ∧ b ≠ b2 ∧ b ≠ b4)) w' bq (finP a (midP a (onIx (whichN a) (fD a) x.ps))) vcs (cur.toList.drop 9) ∧ Blk w' b8 (entF ({ x with state := finS a (midS a x.state) }, g)) 56) ?_ ?_
        · unfold pB
          (repeat (first | refine lw_pure hT rfl ?_ | refine cw_seq ?_ | refine cw_region ?_))
          refine lw_load hT rfl rfl (v := .int .i64 a.kind) (hb312.cell 0) ?_
          (repeat (first | refine lw_pure hT rfl ?_ | refine lw_nil ?_ | refine qw_then ?_))
          refine cw_cond rfl (fun h2 => ?_) (fun h2 => ?_)
          · have h2 : a.kind = 2 := by simpa using h2
            obtain ⟨k, hk3, ek, ei⟩ : ∃ k : Nat, k < 3 ∧ whichN a = [k] ∧ a.index = (k : Int) := by
              have e1 : whichD a = [a.index] := by unfold whichD; rw [if_neg (by omega)]
              have e2 : whichN a = [a.index.toNat] := by unfold whichN; rw [e1]; rfl
              have e3 := eW
              rw [e1, e2] at e3
              have e4 : a.index = (a.index.toNat : Int) := by simpa using e3
              exact ⟨a.index.toNat, ixs_lt (index := a.ask.index) (by rw [← eI, e2]; simp), e2, e4⟩
            (repeat (first | refine lw_pure hT rfl ?_ | refine cw_seq ?_ | refine cw_region ?_))
            refine lw_load hT rfl rfl (v := .int .i64 a.index) (hb312.cell 1) ?_
            skip
            refine lw_index hT rfl rfl rfl k ei hk3 ?_
            (repeat (refine lw_pure hT rfl ?_))
            refine lw_store (size := 1) hT rfl rfl rfl rfl hP12.blk (show 0 + k * 3 + 0 < _ by rw [rows_len hP12.three hP12.three']; omega) ?_
            intro w13 hb13 hx13 hs13
            have e : 0 + k * 3 + 0 = k * 3 := by omega
            rw [e] at hb13
            have hP13 := hP12.states (fun b hb => hb.2.1) hk3 1 hx13 hb13
            (repeat (first | refine lw_pure hT rfl ?_ | refine lw_nil ?_ | refine cw_region ?_ | refine qw_then ?_))
            refine lw_store (size := 1) hT rfl rfl rfl rfl (hb812.ext hx13 (by have := hb87.lt; omega)) (show (9 : Nat) < 11 by decide) ?_
            intro w14 hb14 hx14 hs14
            (repeat (refine lw_nil ?_))
            refine qw_cut () (by repeat (first | exact trivial | refine ⟨rfl, ?_⟩)) ⟨(hx13.mono fun _ _ h => .inl h).trans (hx14.mono fun _ _ h => .inr h), ?_, ?_⟩
            · have ef : finP a (midP a (onIx (whichN a) (fD a) x.ps)) = onIx [k] (stateP 1) (midP a (onIx (whichN a) (fD a) x.ps)) := by unfold finP; rw [if_pos h2]; congr 1
              rw [ef]
              exact ⟨hP13.three, hP13.three', hP13.blk.ext hx14 (by have := hb87.lt; omega), fun i' q' vc' h1 h2 => (hP13.chains i' q' vc' h1 h2).ext hx14 (fun b hb => hb.2.2.1)⟩
            · unfold finS; rw [if_pos h2]; exact hb14
          · have h2 : ¬ a.kind = 2 := by simpa using h2
            (repeat (refine cw_skip ?_))
            refine qw_cut () (by repeat (first | exact trivial | refine ⟨rfl, ?_⟩)) ⟨Ext.refl _ _, ?_, ?_⟩
            · unfold finP; rw [if_neg h2]; exact hP12
            · unfold finS; rw [if_neg h2]; exact hb812
        rintro _ w13 ⟨hx13, hP13, hb813⟩
        have hx1113 : Ext (fun b => b = bq ∨ b = b8) w11 w13 := hx12.trans hx13
        have hb213 : Blk w13 b2 (encR c (.slice (some ⟨bL, oL, none⟩) l.length cL)) 28 := ((hb29.ex hx10).ext hx11 (by have := hb25.lt; omega)).ext hx1113 (by have := hb25.lt; rintro (h | h) <;> omega)
        unfold pB
        (repeat (first | refine lw_pure hT rfl ?_ | refine cw_seq ?_ | refine cw_region ?_ | refine qw_then ?_))
        refine lw_store (size := 1) hT rfl rfl rfl rfl hb813 (show (10 : Nat) < 11 by decide) ?_
        intro w14 hb814 hx14 hs14
        (repeat (first | refine lw_nil ?_ | refine cw_seq ?_ | refine qw_then ?_))
        have hl59 := hx59.size
        have hl79 := hx79.size
        have hl57 := hx57.size
        have hx514 : Ex w5 w14 := (((hx59.trans hx10).up_new hx11 (fun i h => by omega)).up_new hx1113 (fun i h => by rcases h with h | h <;> omega)).up_new hx14 (fun i h => by omega)
        have hF14 := hF4.ex (hx5.trans hx514)
        have hb214 : Blk w14 b2 (encR c (.slice (some ⟨bL, oL, none⟩) l.length cL)) 28 := hb213.ext hx14 (by have := hb25.lt; omega)
        have hcl0 : l.length ≤ cL := hF14.cap _ _ _ rfl
        obtain ⟨x1, hx1e⟩ : ∃ x1 : EntD, x1 = { x with state := finS a (midS a x.state), ps := finP a (midP a (onIx (whichN a) (fD a) x.ps)) } := ⟨_, rfl⟩
        obtain ⟨g1, hg1e⟩ : ∃ g1 : FG, g1 = { g with vP := .slice (some ⟨bq, 0, none⟩) 3 capq, vcs := vcs } := ⟨_, rfl⟩
        replace hb814 : Blk w14 b8 (entF (x1, g1)) 56 := by rw [hx1e, hg1e]; exact hb814
        have hzl : ((l.zip gs).map entF).length = l.length := by simp [hF.len]
        have hTk := hF14.sl.cutTo (i := i) (by rw [hzl]; omega)
        have hDr := hF14.sl.cutFrom (i := i + 1) (m := l.length - (i + 1)) (by rw [hzl]; omega) (by rw [hzl]) hcl0
        have hTkl : (((l.zip gs).map entF).take i).length = i := by rw [List.length_take, hzl]; omega
        have hDrl : (((l.zip gs).map entF).drop (i + 1)).length = l.length - (i + 1) := by rw [List.length_drop, hzl]
        have hTk1 : ∀ r ∈ ((l.zip gs).map entF).take i, ∀ u ∈ r, u.oneCell' = true := fun r hr => hF14.one r (List.mem_of_mem_take hr)
        have hDr1 : ∀ r ∈ ((l.zip gs).map entF).drop (i + 1), ∀ u ∈ r, u.oneCell' = true := fun r hr => hF14.one r (List.mem_of_mem_drop hr)
        have hP14 : PapsAt (fun b => (A0' b ∨ w.heap.size ≤ b) ∧ (b ≠ bq ∧ b ≠ b8 ∧ b ≠ b2 ∧ b ≠ b4)) w14 bq (finP a (midP a (onIx (whichN a) (fD a) x.ps))) vcs (cur.toList.drop 9) :=
          ⟨hP13.three, hP13.three', hP13.blk.ext hx14 (by have := hb87.lt; omega), fun i' q' vc' h1 h2 => (hP13.chains i' q' vc' h1 h2).ext hx14 (fun b hb => hb.2.2.1)⟩
        have hE14 := hE5.ex hx514
        have hx04s := hx04.size
        have hE1 : FEnt (fun b => (A0' b ∨ w.heap.size ≤ b) ∧ (b ≠ b2 ∧ b ≠ b4)) w14 x1 g1 := by
          rw [hx1e, hg1e]
          refine ⟨hE14.boxes.weaken fun b hb => ⟨.inl hb.1, by have := hb.2; omega, by have := hb.2; omega⟩, hE14.parents.weaken fun b hb => ⟨.inl hb.1, by have := hb.2; omega, by have := hb.2; omega⟩, hP14.three, hP14.three', hP14.sl ⟨.inr (by omega), by omega, by omega⟩, fun j q vc h1 h2 => (hP14.chains j q vc h1 h2).weaken fun b hb => ⟨hb.1, hb.2.2.2.1, hb.2.2.2.2⟩, hE14.bcap⟩
        have hx1one := entF_one hE1
        refine cw_then_cut (α := Value) (fun u => [(2, pB b2), (4, pB b4)]) (fun u w' => ∃ wa, Ex w14 wa ∧ wa.ownsRow w14.heap.size 56 11 u (i + 1 + (l.length - (i + 1))) (((((l.zip gs).map entF).take i).flatten ++ entF (x1, g1)) ++ (((l.zip gs).map entF).drop (i + 1)).flatten) ∧ Ext (· = b2) wa w' ∧ Blk w' b2 (encR c u) 28) ?_ ?_
        · unfold pB
          refine cw_draw hM (fun w' => Ex w14 w') [16] rfl rfl (by repeat with_reducible (first | refine nop_then ?_ | refine nop_block ?_ | exact nop_body)) (fun w15 hx15 _ => ⟨hx15, ?_⟩)
          (refine rw_takeP 1 rfl rfl (by kernel_rfl) (by kernel_rfl) (by kernel_rfl) (by kernel_rfl) rfl (yo_pure hT rfl) ?_)
          refine rw_take 2 rfl rfl (by kernel_rfl) (by kernel_rfl) (by kernel_rfl) (by kernel_rfl) rfl (yo_load hT rfl rfl (v := .slice (some ⟨bL, oL, none⟩) l.length cL) (fun w' hS => Ex.cell hS (hb214.cell 1))) ?_
          (refine rw_takeP 3 rfl rfl (by kernel_rfl) (by kernel_rfl) (by kernel_rfl) (by kernel_rfl) rfl (yo_pure hT rfl) ?_)
          refine rw_takeP 4 rfl rfl (by kernel_rfl) (by kernel_rfl) (by kernel_rfl) (by kernel_rfl) rfl (yo_slice_sl hT rfl rfl rfl rfl 0 i rfl rfl (Nat.zero_le _) (by omega)) ?_
          refine rw_take 6 rfl rfl (by kernel_rfl) (by kernel_rfl) (by kernel_rfl) (by kernel_rfl) rfl (yo_load_agg hT rfl rfl rfl (vs := entF (x1, g1)) (fun w' hS => (hb814.ex hS).rd 0 11)) ?_
          (refine rw_takeP 9 rfl rfl (by kernel_rfl) (by kernel_rfl) (by kernel_rfl) (by kernel_rfl) rfl (yo_pure hT rfl) ?_)
          refine rw_take 10 rfl rfl (by kernel_rfl) (by kernel_rfl) (by kernel_rfl) (by kernel_rfl) rfl (yo_load hT rfl rfl (v := .slice (some ⟨bL, oL, none⟩) l.length cL) (fun w' hS => Ex.cell hS (hb214.cell 1))) ?_
          (refine rw_takeP 11 rfl rfl (by kernel_rfl) (by kernel_rfl) (by kernel_rfl) (by kernel_rfl) rfl (yo_pure hT rfl) ?_)
          refine rw_takeP 12 rfl rfl (by kernel_rfl) (by kernel_rfl) (by kernel_rfl) (by kernel_rfl) rfl (yo_sum rfl rfl (.inl ⟨rfl, rfl⟩) (by omega) (by omega)) ?_
          refine rw_takeP 13 rfl rfl (by kernel_rfl) (by kernel_rfl) (by kernel_rfl) (by kernel_rfl) rfl (yo_slice_sl hT rfl rfl rfl rfl (i + 1) l.length (by omega) rfl (by omega) hcl0) ?_
          refine rw_two 0 7 rfl rfl (by kernel_rfl) rfl rfl (fun hcl => ?_) (fun hcl => ?_)
          · refine lw_buildSlice sl26 rfl rfl rfl ?_
            intro e0 w16 he0 hbe0 hx16 hs16
            have hC16 := hx15.trans hx16
            have own16 : w16.ownsRow w14.heap.size 56 11 (.slice (some ⟨e0, 0, none⟩) 0 0) 0 [] := own_lit hbe0 (by have := hx15.size; omega) rfl (by decide)
            (repeat (refine lw_nil ?_))
            refine qw_rw (by repeat with_reducible (first | refine nop_then ?_ | refine nop_block ?_ | exact nop_body)) hcl (fun _ => hC16) ?_
            refine rw_two 5 7 rfl rfl (by kernel_rfl) rfl rfl (fun hcl => ?_) (fun hcl => ?_)
            · refine lw_append_sl sl26 (by decide) rfl own16 rfl (hTk.ex hC16) hTk1 (by rw [hTkl]; unfold maxLen; omega) (by rw [hTkl]; omega) (by have := hC16.size; omega) ?_
              intro u1 w17 q1 q2 q3 q4
              have hC17 : Ex w14 w17 := hC16.up_new q2 (fun i h => by simp [Value.ownBlock] at h; have := hx15.size; have := hC16.size; omega)
              rw [Nat.zero_add, List.nil_append, hTkl] at q1
              (repeat (refine lw_nil ?_))
              refine qw_rw (by repeat with_reducible (first | refine nop_then ?_ | refine nop_block ?_ | exact nop_body)) hcl (fun _ => hC17) ?_
              refine rw_one 7 rfl (by kernel_rfl) rfl (fun hcl => ?_)
              refine lw_buildSlice sl26 rfl rfl rfl ?_
              intro e7 w18 he7 hbe7 hx18 hs18
              replace hbe7 : Blk w18 e7 (entF (x1, g1)) 56 := hbe7
              have hC18 := hC17.trans hx18
              have own18 := own_ex q1 hx18
              (repeat (refine lw_nil ?_))
              refine qw_rw (by repeat with_reducible (first | refine nop_then ?_ | refine nop_block ?_ | exact nop_body)) hcl (fun _ => hC18) ?_
              refine rw_one 8 rfl (by kernel_rfl) rfl (fun hcl => ?_)
              refine lw_append sl26 (by decide) rfl own18 rfl (hbe7.rd 0 11) rfl hx1one (by unfold maxLen; omega) (by omega) (by have := hC18.size; omega) ?_
              intro u2 w19 k1 k2 k3 k4
              have hC19 : Ex w14 w19 := hC18.up_new k2 (fun i h => (own_base q1 h.symm).1)
              (repeat (refine lw_nil ?_))
              refine qw_rw (by repeat with_reducible (first | refine nop_then ?_ | refine nop_block ?_ | exact nop_body)) hcl (fun _ => hC19) ?_
              refine rw_one 14 rfl (by kernel_rfl) rfl (fun hcl => ?_)
              refine lw_append_sl sl26 (by decide) rfl k1 rfl (hDr.ex hC19) hDr1 (by rw [hDrl]; unfold maxLen; omega) (by rw [hDrl]; omega) (by have := hC19.size; omega) ?_
              intro u3 w20 m1 m2 m3 m4
              have hC20 : Ex w14 w20 := hC19.up_new m2 (fun i h => (own_base k1 h.symm).1)
              rw [hDrl] at m1
              (repeat (refine lw_nil ?_))
              refine qw_rw (by repeat with_reducible (first | refine nop_then ?_ | refine nop_block ?_ | exact nop_body)) hcl (fun _ => hC20) ?_
              (refine rw_takeP 15 rfl rfl (by kernel_rfl) (by kernel_rfl) (by kernel_rfl) (by kernel_rfl) rfl (yo_pure hT rfl) ?_)
              refine rw_one 16 rfl (by kernel_rfl) rfl (fun hcl => ?_)
              refine lw_store (size := 1) hT rfl rfl rfl (own_one m1) (hb214.ex hC20) (show (1 : Nat) < 2 by decide) ?_
              intro w21 hbz hxz hsz
              (repeat (refine lw_nil ?_))
              refine qw_rw (by repeat with_reducible (first | refine nop_then ?_ | refine nop_block ?_ | exact nop_body)) hcl (fun h => absurd h (by decide)) ?_
              refine rw_done (by kernel_rfl) ?_
              skip
              exact qw_cut u3 (by repeat (first | exact trivial | refine ⟨rfl, ?_⟩)) ⟨w20, hC20, m1, hxz, hbz⟩
            · refine lw_buildSlice sl26 rfl rfl rfl ?_
              intro e7 w17 he7 hbe7 hx17 hs17
              replace hbe7 : Blk w17 e7 (entF (x1, g1)) 56 := hbe7
              have hC17 := hC16.trans hx17
              have own17 := own_ex own16 hx17
              (repeat (refine lw_nil ?_))
              refine qw_rw (by repeat with_reducible (first | refine nop_then ?_ | refine nop_block ?_ | exact nop_body)) hcl (fun _ => hC17) ?_
              refine rw_one 5 rfl (by kernel_rfl) rfl (fun hcl => ?_)
              refine lw_append_sl sl26 (by decide) rfl own17 rfl (hTk.ex hC17) hTk1 (by rw [hTkl]; unfold maxLen; omega) (by rw [hTkl]; omega) (by have := hC17.size; omega) ?_
              intro u1 w18 q1 q2 q3 q4
              have hC18 : Ex w14 w18 := hC17.up_new q2 (fun i h => by simp [Value.ownBlock] at h; have := hx15.size; have := hC16.size; omega)
              rw [Nat.zero_add, List.nil_append, hTkl] at q1
              have be18 := hbe7.ext q2 (by simp [Value.ownBlock]; have := hC17.size; omega)
              (repeat (refine lw_nil ?_))
              refine qw_rw (by repeat with_reducible (first | refine nop_then ?_ | refine nop_block ?_ | exact nop_body)) hcl (fun _ => hC18) ?_
              refine rw_one 8 rfl (by kernel_rfl) rfl (fun hcl => ?_)
              refine lw_append sl26 (by decide) rfl q1 rfl (be18.rd 0 11) rfl hx1one (by unfold maxLen; omega) (by omega) (by have := hC18.size; omega) ?_
              intro u2 w19 k1 k2 k3 k4
              have hC19 : Ex w14 w19 := hC18.up_new k2 (fun i h => (own_base q1 h.symm).1)
              (repeat (refine lw_nil ?_))
              refine qw_rw (by repeat with_reducible (first | refine nop_then ?_ | refine nop_block ?_ | exact nop_body)) hcl (fun _ => hC19) ?_
              refine rw_one 14 rfl (by kernel_rfl) rfl (fun hcl => ?_)
              refine lw_append_sl sl26 (by decide) rfl k1 rfl (hDr.ex hC19) hDr1 (by rw [hDrl]; unfold maxLen; omega) (by rw [hDrl]; omega) (by have := hC19.size; omega) ?_
              intro u3 w20 m1 m2 m3 m4
              have hC20 : Ex w14 w20 := hC19.up_new m2 (fun i h => (own_base k1 h.symm).1)
              rw [hDrl] at m1
              (repeat (refine lw_nil ?_))
              refine qw_rw (by repeat with_reducible (first | refine nop_then ?_ | refine nop_block ?_ | exact nop_body)) hcl (fun _ => hC20) ?_
              (refine rw_takeP 15 rfl rfl (by kernel_rfl) (by kernel_rfl) (by kernel_rfl) (by kernel_rfl) rfl (yo_pure hT rfl) ?_)
              refine rw_one 16 rfl (by kernel_rfl) rfl (fun hcl => ?_)
              refine lw_store (size := 1) hT rfl rfl rfl (own_one m1) (hb214.ex hC20) (show (1 : Nat) < 2 by decide) ?_
              intro w21 hbz hxz hsz
              (repeat (refine lw_nil ?_))
              refine qw_rw (by repeat with_reducible (first | refine nop_then ?_ | refine nop_block ?_ | exact nop_body)) hcl (fun h => absurd h (by decide)) ?_
              refine rw_done (by kernel_rfl) ?_
              skip
              exact qw_cut u3 (by repeat (first | exact trivial | refine ⟨rfl, ?_⟩)) ⟨w20, hC20, m1, hxz, hbz⟩
          · refine lw_buildSlice sl26 rfl rfl rfl ?_
            intro e7 w16 he7 hbe7 hx16 hs16
            replace hbe7 : Blk w16 e7 (entF (x1, g1)) 56 := hbe7
            have hC16 := hx15.trans hx16
            (repeat (refine lw_nil ?_))
            refine qw_rw (by repeat with_reducible (first | refine nop_then ?_ | refine nop_block ?_ | exact nop_body)) hcl (fun _ => hC16) ?_
            refine rw_one 0 rfl (by kernel_rfl) rfl (fun hcl => ?_)
            refine lw_buildSlice sl26 rfl rfl rfl ?_
            intro e0 w17 he0 hbe0 hx17 hs17
            have hC17 := hC16.trans hx17
            have own17 : w17.ownsRow w14.heap.size 56 11 (.slice (some ⟨e0, 0, none⟩) 0 0) 0 [] := own_lit hbe0 (by have := hC16.size; omega) rfl (by decide)
            have be17 := hbe7.ex hx17
            (repeat (refine lw_nil ?_))
            refine qw_rw (by repeat with_reducible (first | refine nop_then ?_ | refine nop_block ?_ | exact nop_body)) hcl (fun _ => hC17) ?_
            refine rw_one 5 rfl (by kernel_rfl) rfl (fun hcl => ?_)
            refine lw_append_sl sl26 (by decide) rfl own17 rfl (hTk.ex hC17) hTk1 (by rw [hTkl]; unfold maxLen; omega) (by rw [hTkl]; omega) (by have := hC17.size; omega) ?_
            intro u1 w18 q1 q2 q3 q4
            have hC18 : Ex w14 w18 := hC17.up_new q2 (fun i h => by simp [Value.ownBlock] at h; have := hx15.size; have := hC16.size; omega)
            rw [Nat.zero_add, List.nil_append, hTkl] at q1
            have be18 := be17.ext q2 (by simp [Value.ownBlock]; have := hC17.size; omega)
            (repeat (refine lw_nil ?_))
            refine qw_rw (by repeat with_reducible (first | refine nop_then ?_ | refine nop_block ?_ | exact nop_body)) hcl (fun _ => hC18) ?_
            refine rw_one 8 rfl (by kernel_rfl) rfl (fun hcl => ?_)
            refine lw_append sl26 (by decide) rfl q1 rfl (be18.rd 0 11) rfl hx1one (by unfold maxLen; omega) (by omega) (by have := hC18.size; omega) ?_
            intro u2 w19 k1 k2 k3 k4
            have hC19 : Ex w14 w19 := hC18.up_new k2 (fun i h => (own_base q1 h.symm).1)
            (repeat (refine lw_nil ?_))
            refine qw_rw (by repeat with_reducible (first | refine nop_then ?_ | refine nop_block ?_ | exact nop_body)) hcl (fun _ => hC19) ?_
            refine rw_one 14 rfl (by kernel_rfl) rfl (fun hcl => ?_)
            refine lw_append_sl sl26 (by decide) rfl k1 rfl (hDr.ex hC19) hDr1 (by rw [hDrl]; unfold maxLen; omega) (by rw [hDrl]; omega) (by have := hC19.size; omega) ?_
            intro u3 w20 m1 m2 m3 m4
            have hC20 : Ex w14 w20 := hC19.up_new m2 (fun i h => (own_base k1 h.symm).1)
            rw [hDrl] at m1
            (repeat (refine lw_nil ?_))
            refine qw_rw (by repeat with_reducible (first | refine nop_then ?_ | refine nop_block ?_ | exact nop_body)) hcl (fun _ => hC20) ?_
            (refine rw_takeP 15 rfl rfl (by kernel_rfl) (by kernel_rfl) (by kernel_rfl) (by kernel_rfl) rfl (yo_pure hT rfl) ?_)
            refine rw_one 16 rfl (by kernel_rfl) rfl (fun hcl => ?_)
            refine lw_store (size := 1) hT rfl rfl rfl (own_one m1) (hb214.ex hC20) (show (1 : Nat) < 2 by decide) ?_
            intro w21 hbz hxz hsz
            (repeat (refine lw_nil ?_))
            refine qw_rw (by repeat with_reducible (first | refine nop_then ?_ | refine nop_block ?_ | exact nop_body)) hcl (fun h => absurd h (by decide)) ?_
            refine rw_done (by kernel_rfl) ?_
            skip
            exact qw_cut u3 (by repeat (first | exact trivial | refine ⟨rfl, ?_⟩)) ⟨w20, hC20, m1, hxz, hbz⟩
        rintro u w15 ⟨wa, hxa, how, hxb, hb215⟩
        unfold pB
        (repeat (first | refine cw_seq ?_ | refine cw_region ?_ | refine qw_then ?_))
        refine lw_load_agg hT rfl rfl rfl (vs := encR c u) (hb215.rd 0 2) ?_
        skip
        have hua := fun k (hk : Value.ownBlock u = some k) => own_base how hk
        have hla := hxa.size
        have hlb := hxb.size
        have hl514 := hx514.size
        have hb4w : Blk w15 b4 _ 28 := ((hb45.ex hx514).ex hxa).ext hxb (by omega)
        refine lw_store_agg hT rfl rfl rfl rfl (by intro v hv; simp [encR] at hv; rcases hv with rfl | rfl <;> first | rfl | exact own_one how) hb4w (show (2 : Nat) ≤ 2 by decide) ?_
        intro w16 hb16 hx16 hs16
        (repeat (first | refine lw_pure hT rfl ?_ | refine lw_nil ?_ | refine qw_then ?_ | refine cw_ret ?_))
        have hx0a : Ex w wa := (hx04.trans (hx5.trans hx514)).trans hxa
        have hx0b : Ex w w15 := hx0a.up_new hxb (fun i h => by omega)
        have hx0c : Ex w w16 := hx0b.up_new hx16 (fun i h => by omega)
        refine qw_ret_cell hT rfl rfl rfl rfl (vs := encR c u) (hb16.rd 0 2) rfl ⟨⟨u, gs.set i g1, rfl, ?_⟩, hx0c⟩
        have hnum : a.bill = x.bill.number := by
          have := List.find?_some hat
          rw [hxi]; exact of_decide_eq_true this
        have eupd : (RegD.upd ⟨c, l⟩ a.bill (·.after a)).l = l.set i x1 := by
          rw [upd_set' (r := ⟨c, l⟩) (i := i) (x := x) hx_ hnum hN, after_eq hk1 eI eN, hx1e]
        rw [eupd]
        have hs2 : Ext (fun k => k = b2 ∨ k = b4) wa w16 := (hxb.mono fun _ _ h => .inl h).trans (hx16.mono fun _ _ h => .inr h)
        refine FRep.changed hF.len hil (own_ext how hs2 (fun k hk e => by have := hua k hk; rcases e with e | e <;> omega)) (fun k hk => .inr (by have := hua k hk; omega)) ?_ ?_
        · intro j y v _ hy hv
          exact ((hF.ents j y v hy hv).ex hx0c).weaken fun b hb => .inl hb
        · exact ((hE1.ex hxa).ext hs2 (fun b hb e => by rcases e with e | e <;> simp_all)).weaken fun b hb => hb.1
end Go.Proofs.YtnglkhnfmbnfeaaGreat
namespace Go.Proofs.YtnglkhnfmbnfeaaGreat
open Go Go.SK
set_option maxHeartbeats 2000000 in
theorem r23_put {A : Nat → Prop} {w : World} {b o c : Nat} {l : List ByteArray} (s : ByteArray) (hS : SlS A w (.slice (some ⟨b, o, none⟩) l.length c) l) (hc : l.length ≤ c) (hl : l.length ≤ 1000) :
    Ret Tryz.prog 105 [.slice (some ⟨b, o, none⟩) l.length c, .string s] w fun u w' => w'.ownsRow w.heap.size 9 1 u (l.length + 1) ((putL l s).map Value.string) ∧ Ex w w' := by
  have hS0 := hS
  obtain ⟨a_, c_, hv, _, hr⟩ := hS.is
  have hrow : ∀ i (hi : i < l.length), Rd w b (o + i * 1) [.string l[i]] := by
    intro i hi
    have hne : l.map (fun s => [Value.string s]) ≠ [] := by intro e; simp at e; subst e; simp at hi
    obtain ⟨bb, oo, e, _, hrd⟩ := hr hne
    simp only [Value.slice.injEq] at hv
    have e2 := hv.1.trans e
    simp only [Option.some.injEq, Addr.mk.injEq, and_true] at e2
    obtain ⟨rfl, rfl⟩ := e2
    exact (hrd i [.string l[i]] (by simp [hi])).2
  refine ret_of Tryz.func105 Tryz.ntmps105 rfl rfl rfl ?_
  (iterate 2 (refine cw_seq ?_; refine cw_region ?_; refine lw_pure hT rfl ?_; refine lw_nil ?_; refine qw_then ?_))
  refine cw_seq ?_
  refine cw_then_cut (α := Nat) (fun k => [(0, .slice (some ⟨b, o, none⟩) l.length c), (1, .string s), (5, .int .i64 (k : Nat))]) (fun k w' => Ex w w' ∧ k ≤ l.length ∧ (∀ j (hj : j < l.length), j < k → ltB l[j] s = true) ∧ ∀ hj : k < l.length, ltB l[k] s = false) ?_ ?_
  · refine cw_block ?_
    refine cw_loop (fun k : Nat => [(0, .slice (some ⟨b, o, none⟩) l.length c), (1, .string s), (5, .int .i64 (k : Nat))]) (fun k w' => Ex w w' ∧ k ≤ l.length ∧ ∀ j (hj : j < l.length), j < k → ltB l[j] s = true) (fun k => l.length - k) 0 (by repeat (first | exact trivial | refine ⟨rfl, ?_⟩)) ⟨Ext.refl _ _, Nat.zero_le _, fun j _ hj => by omega⟩ ?_
    rintro k w1 ⟨hx1, hk, hb⟩
    (repeat (first | refine lw_pure hT rfl ?_ | refine cw_seq ?_ | refine cw_region ?_))
    refine lw_guard rfl (fun e => ?_) (fun e => ?_)
    · have hlt : k < l.length := by have := of_decide_eq_true e; omega
      (repeat (first | refine lw_pure hT rfl ?_ | (refine lw_gon_t rfl ?_ ?_; focus with_reducible (first | rfl | exact Bool.not_false | exact Bool.not_true))))
      refine lw_index hT rfl rfl rfl k rfl hlt ?_
      (repeat (refine lw_gon_t rfl ?_ ?_; focus with_reducible (first | rfl | exact Bool.not_false | exact Bool.not_true)))
      refine lw_load hT rfl rfl (v := .string l[k]) (((hrow k hlt).ex hx1) 0 _ rfl) ?_
      (repeat (first | refine lw_pure hT rfl ?_ | refine lw_nil ?_ | refine qw_then ?_ | (refine lw_gon_t rfl ?_ ?_; focus with_reducible (first | rfl | exact Bool.not_false | exact Bool.not_true))))
      refine cw_cond rfl (fun e' => ?_) (fun e' => ?_)
      · (repeat (first | (refine lw_add rfl rfl ?_ ?_ ?_; iterate 2 omega) | refine lw_pure hT rfl ?_ | refine lw_nil ?_ | refine cw_region ?_ | refine qw_then ?_ | refine cw_skip ?_ | refine cw_block ?_ | refine qw_block ?_))
        refine qw_round (k + 1) (by repeat (first | exact trivial | refine ⟨rfl, ?_⟩)) ⟨hx1, hlt, fun j hj hjk => ?_⟩ (by omega)
        by_cases ej : j = k
        · subst ej; exact e'
        · exact hb j hj (by omega)
      · (repeat (first | refine cw_exit ?_ | refine qw_block_exit ?_ | refine qw_then_exit ?_))
        exact qw_cut k (by repeat (first | exact trivial | refine ⟨rfl, ?_⟩)) ⟨hx1, hk, hb, fun _ => e'⟩
    · have hge : ¬ k < l.length := by have := of_decide_eq_false e; omega
      (repeat (first | refine lw_pure hT rfl ?_ | refine lw_nil ?_ | refine qw_then ?_ | (refine lw_goff_f rfl ?_ ?_; focus with_reducible (first | rfl | exact Bool.not_false | exact Bool.not_true)) | refine cw_exit ?_ | refine qw_block_exit ?_ | refine qw_then_exit ?_ | (refine cw_cond_f rfl ?_ ?_; focus with_reducible (first | rfl | exact Bool.not_false | exact Bool.not_true))))
      exact qw_cut k (by repeat (first | exact trivial | refine ⟨rfl, ?_⟩)) ⟨hx1, hk, hb, fun h => absurd h hge⟩
  rintro k w1 ⟨hx1, hk, hb, h2⟩
  have fin : ∀ (u3 : Value) (w9 : World), w9.ownsRow w1.heap.size 9 1 u3 (k + 1 + (l.length - k)) (((((l.map fun s => [Value.string s]).take k).flatten ++ [Value.string s])) ++ ((l.map fun s => [Value.string s]).drop k).flatten) →
      w9.ownsRow w.heap.size 9 1 u3 (l.length + 1) ((putL l s).map Value.string) := by
    intro u3 w9 h
    rw [putL_at hk hb h2]
    have e1 : ((l.map fun s => [Value.string s]).take k).flatten = (l.take k).map Value.string := by rw [← List.map_take]; exact flat4 _
    have e2 : ((l.map fun s => [Value.string s]).drop k).flatten = (l.drop k).map Value.string := by rw [← List.map_drop]; exact flat4 _
    rw [e1, e2, show k + 1 + (l.length - k) = l.length + 1 from by omega] at h
    have := own_mono h hx1.size
    simpa using this
  have hS1 := hS.ex hx1
  have hzl : (l.map fun s => [Value.string s]).length = l.length := List.length_map _
  have hTk := hS1.cutTo (i := k) (by rw [hzl]; exact hk)
  have hDr := hS1.cutFrom (i := k) (m := l.length - k) (by rw [hzl]; exact hk) (by rw [hzl]) hc
  have hTkl : ((l.map fun s => [Value.string s]).take k).length = k := by rw [List.length_take, hzl]; omega
  have hDrl : ((l.map fun s => [Value.string s]).drop k).length = l.length - k := by rw [List.length_drop, hzl]
  have hone : ∀ r ∈ (l.map fun s => [Value.string s]), ∀ u ∈ r, u.oneCell' = true := by intro r hr u hu; obtain ⟨x, _, rfl⟩ := List.mem_map.1 hr; simp at hu; subst hu; rfl
  have hTk1 : ∀ r ∈ (l.map fun s => [Value.string s]).take k, ∀ u ∈ r, u.oneCell' = true := fun r hr => hone r (List.mem_of_mem_take hr)
  have hDr1 : ∀ r ∈ (l.map fun s => [Value.string s]).drop k, ∀ u ∈ r, u.oneCell' = true := fun r hr => hone r (List.mem_of_mem_drop hr)
  (repeat (first | refine cw_seq ?_ | refine qw_then ?_))
  refine cw_draw hM (fun w' => Ex w1 w') [] rfl rfl (by repeat with_reducible (first | refine nop_then ?_ | refine nop_block ?_ | exact nop_body)) (fun w2 hx2 _ => ⟨hx2, ?_⟩)
  (refine rw_takeP 1 rfl rfl (by kernel_rfl) (by kernel_rfl) (by kernel_rfl) (by kernel_rfl) rfl (yo_pure hT rfl) ?_; refine rw_takeP 2 rfl rfl (by kernel_rfl) (by kernel_rfl) (by kernel_rfl) (by kernel_rfl) rfl (yo_pure hT rfl) ?_)
  refine rw_takeP 3 rfl rfl (by kernel_rfl) (by kernel_rfl) (by kernel_rfl) (by kernel_rfl) rfl (yo_slice_sl hT rfl rfl rfl rfl 0 k rfl rfl (Nat.zero_le _) (by omega)) ?_
  (refine rw_takeP 5 rfl rfl (by kernel_rfl) (by kernel_rfl) (by kernel_rfl) (by kernel_rfl) rfl (yo_pure hT rfl) ?_; refine rw_takeP 8 rfl rfl (by kernel_rfl) (by kernel_rfl) (by kernel_rfl) (by kernel_rfl) rfl (yo_pure hT rfl) ?_; refine rw_takeP 9 rfl rfl (by kernel_rfl) (by kernel_rfl) (by kernel_rfl) (by kernel_rfl) rfl (yo_pure hT rfl) ?_)
  refine rw_takeP 10 rfl rfl (by kernel_rfl) (by kernel_rfl) (by kernel_rfl) (by kernel_rfl) rfl (yo_slice_sl hT rfl rfl rfl rfl k l.length rfl rfl hk hc) ?_
  skip
  refine rw_two 0 6 rfl rfl (by kernel_rfl) rfl rfl (fun hcl => ?_) (fun hcl => ?_)
  · refine lw_buildSlice sl31 rfl rfl rfl ?_
    intro e0 w3 he0 hbe0 hx3 hs3
    have hC3 := hx2.trans hx3
    have own3 : w3.ownsRow w1.heap.size 9 1 (.slice (some ⟨e0, 0, none⟩) 0 0) 0 [] := own_lit hbe0 (by have := hx2.size; omega) rfl (by decide)
    (repeat (refine lw_nil ?_))
    refine qw_rw (by repeat with_reducible (first | refine nop_then ?_ | refine nop_block ?_ | exact nop_body)) hcl (fun _ => hC3) ?_
    refine rw_two 4 6 rfl rfl (by kernel_rfl) rfl rfl (fun hcl => ?_) (fun hcl => ?_)
    · refine lw_append_sl sl31 (by decide) rfl own3 rfl (hTk.ex hC3) hTk1 (by rw [hTkl]; unfold maxLen; omega) (by rw [hTkl]; omega) (by have := hC3.size; omega) ?_
      intro u1 w4 q1 q2 q3 q4
      have hC4 : Ex w1 w4 := hC3.up_new q2 (fun i h => by simp [Value.ownBlock] at h; have := hx2.size; have := hC3.size; omega)
      rw [Nat.zero_add, List.nil_append, hTkl] at q1
      (repeat (refine lw_nil ?_))
      refine qw_rw (by repeat with_reducible (first | refine nop_then ?_ | refine nop_block ?_ | exact nop_body)) hcl (fun _ => hC4) ?_
      refine rw_one 6 rfl (by kernel_rfl) rfl (fun hcl => ?_)
      refine lw_buildSlice sl31 rfl rfl rfl ?_
      intro e7 w5 he7 hbe7 hx5 hs5
      replace hbe7 : Blk w5 e7 ([Value.string s]) 9 := hbe7
      have hC5 := hC4.trans hx5
      have own5 := own_ex q1 hx5
      (repeat (refine lw_nil ?_))
      refine qw_rw (by repeat with_reducible (first | refine nop_then ?_ | refine nop_block ?_ | exact nop_body)) hcl (fun _ => hC5) ?_
      refine rw_one 7 rfl (by kernel_rfl) rfl (fun hcl => ?_)
      refine lw_append sl31 (by decide) rfl own5 rfl (hbe7.rd 0 1) rfl (by intro u hu; simp at hu; subst hu; rfl) (by unfold maxLen; omega) (by omega) (by have := hC5.size; omega) ?_
      intro u2 w6 k1 k2 k3 k4
      have hC6 : Ex w1 w6 := hC5.up_new k2 (fun i h => (own_base q1 h.symm).1)
      (repeat (refine lw_nil ?_))
      refine qw_rw (by repeat with_reducible (first | refine nop_then ?_ | refine nop_block ?_ | exact nop_body)) hcl (fun _ => hC6) ?_
      refine rw_one 11 rfl (by kernel_rfl) rfl (fun hcl => ?_)
      refine lw_append_sl sl31 (by decide) rfl k1 rfl (hDr.ex hC6) hDr1 (by rw [hDrl]; unfold maxLen; omega) (by rw [hDrl]; omega) (by have := hC6.size; omega) ?_
      intro u3 w7 m1 m2 m3 m4
      have hC7 : Ex w1 w7 := hC6.up_new m2 (fun i h => (own_base k1 h.symm).1)
      rw [hDrl] at m1
      (repeat (refine lw_nil ?_))
      refine qw_rw (by repeat with_reducible (first | refine nop_then ?_ | refine nop_block ?_ | exact nop_body)) hcl (fun _ => hC7) ?_
      (refine rw_takeP 12 rfl rfl (by kernel_rfl) (by kernel_rfl) (by kernel_rfl) (by kernel_rfl) rfl (yo_pure hT rfl) ?_)
      refine rw_done (by kernel_rfl) ?_
      (repeat (first | refine qw_then ?_ | refine cw_ret ?_))
      exact qw_ret rfl ⟨fin u3 w7 m1, hx1.trans hC7⟩
    · refine lw_buildSlice sl31 rfl rfl rfl ?_
      intro e7 w4 he7 hbe7 hx4 hs4
      replace hbe7 : Blk w4 e7 ([Value.string s]) 9 := hbe7
      have hC4 := hC3.trans hx4
      have own4 := own_ex own3 hx4
      (repeat (refine lw_nil ?_))
      refine qw_rw (by repeat with_reducible (first | refine nop_then ?_ | refine nop_block ?_ | exact nop_body)) hcl (fun _ => hC4) ?_
      refine rw_one 4 rfl (by kernel_rfl) rfl (fun hcl => ?_)
      refine lw_append_sl sl31 (by decide) rfl own4 rfl (hTk.ex hC4) hTk1 (by rw [hTkl]; unfold maxLen; omega) (by rw [hTkl]; omega) (by have := hC4.size; omega) ?_
      intro u1 w5 q1 q2 q3 q4
      have hC5 : Ex w1 w5 := hC4.up_new q2 (fun i h => by simp [Value.ownBlock] at h; have := hx2.size; have := hC3.size; omega)
      rw [Nat.zero_add, List.nil_append, hTkl] at q1
      have be5 := hbe7.ext q2 (by simp [Value.ownBlock]; have := hC4.size; omega)
      (repeat (refine lw_nil ?_))
      refine qw_rw (by repeat with_reducible (first | refine nop_then ?_ | refine nop_block ?_ | exact nop_body)) hcl (fun _ => hC5) ?_
      refine rw_one 7 rfl (by kernel_rfl) rfl (fun hcl => ?_)
      refine lw_append sl31 (by decide) rfl q1 rfl (be5.rd 0 1) rfl (by intro u hu; simp at hu; subst hu; rfl) (by unfold maxLen; omega) (by omega) (by have := hC5.size; omega) ?_
      intro u2 w6 k1 k2 k3 k4
      have hC6 : Ex w1 w6 := hC5.up_new k2 (fun i h => (own_base q1 h.symm).1)
      (repeat (refine lw_nil ?_))
      refine qw_rw (by repeat with_reducible (first | refine nop_then ?_ | refine nop_block ?_ | exact nop_body)) hcl (fun _ => hC6) ?_
      refine rw_one 11 rfl (by kernel_rfl) rfl (fun hcl => ?_)
      refine lw_append_sl sl31 (by decide) rfl k1 rfl (hDr.ex hC6) hDr1 (by rw [hDrl]; unfold maxLen; omega) (by rw [hDrl]; omega) (by have := hC6.size; omega) ?_
      intro u3 w7 m1 m2 m3 m4
      have hC7 : Ex w1 w7 := hC6.up_new m2 (fun i h => (own_base k1 h.symm).1)
      rw [hDrl] at m1
      (repeat (refine lw_nil ?_))
      refine qw_rw (by repeat with_reducible (first | refine nop_then ?_ | refine nop_block ?_ | exact nop_body)) hcl (fun _ => hC7) ?_
      (refine rw_takeP 12 rfl rfl (by kernel_rfl) (by kernel_rfl) (by kernel_rfl) (by kernel_rfl) rfl (yo_pure hT rfl) ?_)
      refine rw_done (by kernel_rfl) ?_
      (repeat (first | refine qw_then ?_ | refine cw_ret ?_))
      exact qw_ret rfl ⟨fin u3 w7 m1, hx1.trans hC7⟩
  · refine lw_buildSlice sl31 rfl rfl rfl ?_
    intro e7 w3 he7 hbe7 hx3 hs3
    replace hbe7 : Blk w3 e7 ([Value.string s]) 9 := hbe7
    have hC3 := hx2.trans hx3
    (repeat (refine lw_nil ?_))
    refine qw_rw (by repeat with_reducible (first | refine nop_then ?_ | refine nop_block ?_ | exact nop_body)) hcl (fun _ => hC3) ?_
    refine rw_one 0 rfl (by kernel_rfl) rfl (fun hcl => ?_)
    refine lw_buildSlice sl31 rfl rfl rfl ?_
    intro e0 w4 he0 hbe0 hx4 hs4
    have hC4 := hC3.trans hx4
    have own4 : w4.ownsRow w1.heap.size 9 1 (.slice (some ⟨e0, 0, none⟩) 0 0) 0 [] := own_lit hbe0 (by have := hC3.size; omega) rfl (by decide)
    have be4 := hbe7.ex hx4
    (repeat (refine lw_nil ?_))
    refine qw_rw (by repeat with_reducible (first | refine nop_then ?_ | refine nop_block ?_ | exact nop_body)) hcl (fun _ => hC4) ?_
    refine rw_one 4 rfl (by kernel_rfl) rfl (fun hcl => ?_)
    refine lw_append_sl sl31 (by decide) rfl own4 rfl (hTk.ex hC4) hTk1 (by rw [hTkl]; unfold maxLen; omega) (by rw [hTkl]; omega) (by have := hC4.size; omega) ?_
    intro u1 w5 q1 q2 q3 q4
    have hC5 : Ex w1 w5 := hC4.up_new q2 (fun i h => by simp [Value.ownBlock] at h; have := hx2.size; have := hC3.size; omega)
    rw [Nat.zero_add, List.nil_append, hTkl] at q1
    have be5 := be4.ext q2 (by simp [Value.ownBlock]; have := hC4.size; omega)
    (repeat (refine lw_nil ?_))
    refine qw_rw (by repeat with_reducible (first | refine nop_then ?_ | refine nop_block ?_ | exact nop_body)) hcl (fun _ => hC5) ?_
    refine rw_one 7 rfl (by kernel_rfl) rfl (fun hcl => ?_)
    refine lw_append sl31 (by decide) rfl q1 rfl (be5.rd 0 1) rfl (by intro u hu; simp at hu; subst hu; rfl) (by unfold maxLen; omega) (by omega) (by have := hC5.size; omega) ?_
    intro u2 w6 k1 k2 k3 k4
    have hC6 : Ex w1 w6 := hC5.up_new k2 (fun i h => (own_base q1 h.symm).1)
    (repeat (refine lw_nil ?_))
    refine qw_rw (by repeat with_reducible (first | refine nop_then ?_ | refine nop_block ?_ | exact nop_body)) hcl (fun _ => hC6) ?_
    refine rw_one 11 rfl (by kernel_rfl) rfl (fun hcl => ?_)
    refine lw_append_sl sl31 (by decide) rfl k1 rfl (hDr.ex hC6) hDr1 (by rw [hDrl]; unfold maxLen; omega) (by rw [hDrl]; omega) (by have := hC6.size; omega) ?_
    intro u3 w7 m1 m2 m3 m4
    have hC7 : Ex w1 w7 := hC6.up_new m2 (fun i h => (own_base k1 h.symm).1)
    rw [hDrl] at m1
    (repeat (refine lw_nil ?_))
    refine qw_rw (by repeat with_reducible (first | refine nop_then ?_ | refine nop_block ?_ | exact nop_body)) hcl (fun _ => hC7) ?_
    (refine rw_takeP 12 rfl rfl (by kernel_rfl) (by kernel_rfl) (by kernel_rfl) (by kernel_rfl) rfl (yo_pure hT rfl) ?_)
    refine rw_done (by kernel_rfl) ?_
    (repeat (first | refine qw_then ?_ | refine cw_ret ?_))
    exact qw_ret rfl ⟨fin u3 w7 m1, hx1.trans hC7⟩
theorem putAll_take {l : List ByteArray} {i : Nat} (hi : i < l.length) : putAll (l.take (i + 1)) = putL (putAll (l.take i)) l[i] := by rw [List.take_succ_eq_append_getElem hi, putAll_snoc]
theorem putAll_len (l : List ByteArray) : (putAll l).length = l.length := (putAll_perm l).length_eq
def TxtO (N : Nat) (w : World) (u : Value) (l : List ByteArray) : Prop := w.ownsRow N 9 1 u l.length (l.map Value.string) ∧ ∃ g c, u = .slice (some ⟨g, 0, none⟩) l.length c ∧ l.length ≤ c
theorem TxtO.ex {N : Nat} {w w' : World} {u : Value} {l : List ByteArray} (h : TxtO N w u l) (hx : Ex w w') : TxtO N w' u l := ⟨own_ex h.1 hx, h.2⟩
theorem TxtO.sls {N : Nat} {w : World} {u : Value} {l : List ByteArray} (h : TxtO N w u l) : SlS (fun _ => True) w u l := sls_own h.1 fun _ _ => trivial
theorem txt_put {N : Nat} {w w' : World} {u : Value} {l : List ByteArray} (hN : N ≤ w.heap.size) {s : ByteArray} (h : w'.ownsRow w.heap.size 9 1 u (l.length + 1) ((putL l s).map Value.string)) : TxtO N w' u (putL l s) := by
  have e : (putL l s).length = l.length + 1 := putL_len l s
  obtain ⟨g, c, rfl⟩ := own_slice h (by omega)
  unfold TxtO
  rw [e]
  exact ⟨own_mono h hN, g, c, rfl, own_cap h _ _ _ rfl⟩
theorem r23_put' {N : Nat} {w : World} {u : Value} {l : List ByteArray} (s : ByteArray) (h : TxtO N w u l) (hN : N ≤ w.heap.size) (hl : l.length ≤ 1000) : Ret Tryz.prog 105 [u, .string s] w fun u' w' => TxtO N w' u' (putL l s) ∧ Ex w w' := by
  have hs := h.sls
  obtain ⟨h1, g, c, rfl, hc⟩ := h
  exact (r23_put s hs hc hl).mono fun u' w' ⟨h1, h2⟩ => ⟨txt_put hN h1, h2⟩
theorem r23_Bills {A : Nat → Prop} {w : World} {vL : Value} {l : List EntD} {gs : List FG} (c : ByteArray) (hF : FRep A w vL l gs) (hl : l.length ≤ 256) : Ret Tryz.prog 61 [.agg ⟨encR c vL⟩] w fun u w' => TxtO w.heap.size w' u (putAll (l.map (·.bill.number))) ∧ Ex w w' := by
  obtain ⟨aL, cL, hvL, hLm⟩ := hF.slice
  subst hvL
  refine ret_of Tryz.func61 Tryz.ntmps61 rfl rfl rfl ?_
  (repeat (first | refine cw_seq ?_ | refine cw_region ?_))
  refine lw_box rfl ?_
  intro b1 w1 hbb1 hb1 hx1 hs1
  replace hb1 : Blk w1 b1 (encR c (.slice aL l.length cL)) 28 := hb1
  (repeat (first | refine lw_pure hT rfl ?_ | refine lw_nil ?_ | refine cw_seq ?_ | refine cw_region ?_ | refine qw_then ?_))
  refine lw_buildSlice sl31 rfl rfl rfl ?_
  intro b2 w2 hbb2 hb2 hx2 hs2
  have hb12 := hb1.ex hx2
  have hx02 := hx1.trans hx2
  have h0 : TxtO w.heap.size w2 (.slice (some ⟨b2, 0, none⟩) 0 0) (putAll ((l.map (·.bill.number)).take 0)) := ⟨own_lit hb2 (by omega) rfl (by decide), b2, 0, rfl, Nat.le_refl _⟩
  (repeat (first | refine lw_pure hT rfl ?_ | refine lw_nil ?_ | refine cw_seq ?_ | refine cw_region ?_ | refine qw_then ?_ | refine cw_block ?_))
  refine cw_loop (fun z : Nat × Value => [(1, .pointer (some ⟨b1, 0, none⟩)), (3, z.2), (4, .int .i64 (z.1 : Nat))]) (fun z w' => z.1 ≤ l.length ∧ Ex w2 w' ∧ TxtO w.heap.size w' z.2 (putAll ((l.map (·.bill.number)).take z.1))) (fun z => l.length - z.1) (0, .slice (some ⟨b2, 0, none⟩) 0 0) (by repeat (first | exact trivial | refine ⟨rfl, ?_⟩)) ⟨Nat.zero_le _, Ext.refl _ _, h0⟩ ?_
  rintro ⟨i, u⟩ w3 ⟨hi, hx3, hu⟩
  dsimp only at hi hu ⊢
  have hx03 := hx02.trans hx3
  have hb13 := hb12.ex hx3
  (repeat (first | refine lw_pure hT rfl ?_ | refine cw_seq ?_ | refine cw_region ?_))
  refine lw_load hT rfl rfl (v := .slice aL l.length cL) (hb13.cell 1) ?_
  (repeat (first | refine lw_pure hT rfl ?_ | refine lw_nil ?_ | refine qw_then ?_))
  refine cw_cond rfl (fun e => ?_) (fun e => ?_)
  · have hlt : i < l.length := by have := of_decide_eq_true e; omega
    obtain ⟨x, g, bL, oL, cL', hx_, hg_, hv, hrd, hE⟩ := (hF.ex hx03).row hlt
    cases hv
    have hxi : x = l[i] := by rw [List.getElem?_eq_getElem hlt] at hx_; exact (Option.some.inj hx_).symm
    (repeat (first | refine lw_pure hT rfl ?_ | refine cw_seq ?_ | refine cw_region ?_ | refine qw_then ?_ | refine cw_skip ?_ | refine cw_block ?_))
    refine lw_load hT rfl rfl (v := .slice (some ⟨bL, oL, none⟩) l.length cL) (hb13.cell 1) ?_
    (repeat (refine lw_pure hT rfl ?_))
    refine lw_index hT rfl rfl rfl i rfl hlt ?_
    (repeat (refine lw_pure hT rfl ?_))
    refine lw_load hT rfl rfl (v := .string x.bill.number) (hrd 0 _ rfl) ?_
    skip
    refine lw_call hT rfl rfl (r23_put' x.bill.number hu (by have := hx03.size; omega) (by rw [putAll_len]; simp; omega)) ?_
    rintro u' w4 ⟨hu', hx4⟩
    (repeat (first | (refine lw_add rfl rfl ?_ ?_ ?_; iterate 2 omega) | refine lw_pure hT rfl ?_ | refine lw_nil ?_ | refine cw_region ?_ | refine qw_then ?_ | refine qw_block ?_))
    refine qw_round (x := (i, u)) (i + 1, u') (by repeat (first | exact trivial | refine ⟨rfl, ?_⟩)) ⟨hlt, hx3.trans hx4, ?_⟩ (by show l.length - (i + 1) < l.length - i; omega)
    have := putAll_take (l := l.map (·.bill.number)) (i := i) (by simpa using hlt)
    rw [this]
    simpa [hxi] using hu'
  · have : i = l.length := by have := of_decide_eq_false e; omega
    subst this
    (repeat (first | refine lw_pure hT rfl ?_ | refine lw_nil ?_ | refine cw_seq ?_ | refine cw_region ?_ | refine qw_then ?_ | refine cw_ret ?_ | refine cw_exit ?_ | refine qw_block_exit ?_ | refine qw_then_exit ?_))
    rw [List.take_of_length_le (by simp)] at hu
    exact qw_ret rfl ⟨hu, hx03⟩
set_option maxHeartbeats 1000000 in
theorem r23_Of {A : Nat → Prop} {w : World} {vL : Value} {l : List EntD} {gs : List FG} (c who : ByteArray) (hF : FRep A w vL l gs) (hl : l.length ≤ 256) : Ret Tryz.prog 63 [.agg ⟨encR c vL⟩, .string who] w fun u w' => TxtO w.heap.size w' u (putAll ((l.filter fun e => e.holds who).map (·.bill.number))) ∧ Ex w w' := by
  obtain ⟨aL, cL, hvL, hLm⟩ := hF.slice
  subst hvL
  refine ret_of Tryz.func63 Tryz.ntmps63 rfl rfl rfl ?_
  (repeat (first | refine cw_seq ?_ | refine cw_region ?_))
  refine lw_box rfl ?_
  intro b1 w1 hbb1 hb1 hx1 hs1
  replace hb1 : Blk w1 b1 (encR c (.slice aL l.length cL)) 28 := hb1
  (repeat (first | refine lw_pure hT rfl ?_ | refine lw_nil ?_ | refine cw_seq ?_ | refine cw_region ?_ | refine qw_then ?_))
  refine lw_buildSlice sl31 rfl rfl rfl ?_
  intro b2 w2 hbb2 hb2 hx2 hs2
  have hb12 := hb1.ex hx2
  have hx02 := hx1.trans hx2
  have h0 : TxtO w.heap.size w2 (.slice (some ⟨b2, 0, none⟩) 0 0) (putAll (((l.take 0).filter fun e => e.holds who).map (·.bill.number))) := ⟨own_lit hb2 (by omega) rfl (by decide), b2, 0, rfl, Nat.le_refl _⟩
  (repeat (first | refine lw_pure hT rfl ?_ | refine lw_nil ?_ | refine cw_seq ?_ | refine cw_region ?_ | refine qw_then ?_ | refine cw_block ?_))
  refine cw_loop (fun z : Nat × Value => [(1, .string who), (2, .pointer (some ⟨b1, 0, none⟩)), (5, z.2), (6, .int .i64 (z.1 : Nat))]) (fun z w' => z.1 ≤ l.length ∧ Ex w2 w' ∧ TxtO w.heap.size w' z.2 (putAll (((l.take z.1).filter fun e => e.holds who).map (·.bill.number)))) (fun z => l.length - z.1) (0, .slice (some ⟨b2, 0, none⟩) 0 0) (by repeat (first | exact trivial | refine ⟨rfl, ?_⟩)) ⟨Nat.zero_le _, Ext.refl _ _, h0⟩ ?_
  rintro ⟨i, u⟩ w3 ⟨hi, hx3, hu⟩
  dsimp only at hi hu ⊢
  have hx03 := hx02.trans hx3
  have hb13 := hb12.ex hx3
  (repeat (first | refine lw_pure hT rfl ?_ | refine cw_seq ?_ | refine cw_region ?_))
  refine lw_load hT rfl rfl (v := .slice aL l.length cL) (hb13.cell 1) ?_
  (repeat (first | refine lw_pure hT rfl ?_ | refine lw_nil ?_ | refine qw_then ?_))
  refine cw_cond rfl (fun e => ?_) (fun e => ?_)
  · have hlt : i < l.length := by have := of_decide_eq_true e; omega
    obtain ⟨x, g, bL, oL, cL', hx_, hg_, hv, hrd, hE⟩ := (hF.ex hx03).row hlt
    cases hv
    have hxi : x = l[i] := by rw [List.getElem?_eq_getElem hlt] at hx_; exact (Option.some.inj hx_).symm
    have etake : l.take (i + 1) = l.take i ++ [x] := by rw [List.take_succ_eq_append_getElem hlt, hxi]
    (repeat (first | refine lw_pure hT rfl ?_ | refine cw_seq ?_ | refine cw_region ?_ | refine qw_then ?_ | refine cw_skip ?_ | refine cw_block ?_))
    refine lw_load hT rfl rfl (v := .slice (some ⟨bL, oL, none⟩) l.length cL) (hb13.cell 1) ?_
    (repeat (refine lw_pure hT rfl ?_))
    refine lw_index hT rfl rfl rfl i rfl hlt ?_
    skip
    refine lw_load_agg hT rfl rfl rfl (vs := entF (x, g)) hrd ?_
    skip
    refine lw_alloc z56 ?_
    intro b7 w4 hbb7 hb7 hx4 hs4
    skip
    refine lw_store_agg hT rfl rfl rfl rfl (entF_one hE) hb7 (show (11 : Nat) ≤ 11 by decide) ?_
    intro w5 hb75 hx5 hs5
    replace hb75 : Blk w5 b7 (entF (x, g)) 56 := hb75
    have hx35 : Ex w3 w5 := hx4.up_new hx5 (fun i h => by omega)
    have hE5 := hE.ex hx35
    (repeat (first | refine lw_pure hT rfl ?_ | refine lw_nil ?_ | refine cw_seq ?_ | refine cw_region ?_ | refine qw_then ?_ | refine cw_block ?_))
    refine cw_loop (fun k : Nat => [(1, .string who), (2, .pointer (some ⟨b1, 0, none⟩)), (5, u), (6, .int .i64 (i : Nat)), (7, .pointer (some ⟨b7, 0, none⟩)), (8, .bool ((x.ps.take k).any fun q => decide (x.state = 0) && (decide (q.state = 0) && decide (q.holder = who)))), (9, .int .i64 (k : Nat))])
      (fun k w' => k ≤ 3 ∧ w5 = w') (fun k => 3 - k) 0 (by repeat (first | exact trivial | refine ⟨rfl, ?_⟩)) ⟨Nat.zero_le _, rfl⟩ ?_
    rintro k _ ⟨hk, rfl⟩
    (repeat (first | refine lw_pure hT rfl ?_ | refine lw_nil ?_ | refine cw_seq ?_ | refine cw_region ?_ | refine qw_then ?_))
    refine cw_cond rfl (fun e => ?_) (fun e => ?_)
    · have hk3 : k < 3 := by have := of_decide_eq_true e; omega
      obtain ⟨vc, bP, oP, cP, hvP, _, hrP, hvk, _⟩ := hE5.paper hk3
      have hpk := papAt_get hE.three hk3
      have htk : x.ps.take (k + 1) = x.ps.take k ++ [papAt x k] := by
        have hkl : k < x.ps.length := by rw [hE.three]; exact hk3
        rw [List.take_succ_eq_append_getElem hkl]
        rw [List.getElem?_eq_getElem hkl] at hpk
        rw [Option.some.inj hpk]
      have hany : ((x.ps.take (k + 1)).any fun q => decide (x.state = 0) && (decide (q.state = 0) && decide (q.holder = who))) = (((x.ps.take k).any fun q => decide (x.state = 0) && (decide (q.state = 0) && decide (q.holder = who))) || (decide (x.state = 0) && (decide ((papAt x k).state = 0) && decide ((papAt x k).holder = who)))) := by rw [htk, List.any_append]; simp
      have no : (decide (x.state = 0) && (decide ((papAt x k).state = 0) && decide ((papAt x k).holder = who))) = false → ((x.ps.take (k + 1)).any fun q => decide (x.state = 0) && (decide (q.state = 0) && decide (q.holder = who))) = ((x.ps.take k).any fun q => decide (x.state = 0) && (decide (q.state = 0) && decide (q.holder = who))) := fun h => by rw [hany, h, Bool.or_false]
      (repeat (first | refine lw_pure hT rfl ?_ | refine cw_seq ?_ | refine cw_region ?_ | refine qw_then ?_ | refine cw_skip ?_ | refine cw_block ?_))
      refine lw_load hT rfl rfl (v := .int .i64 x.state) (hb75.cell 9) ?_
      (repeat (refine lw_pure hT rfl ?_))
      refine lw_guard rfl (fun e1 => ?_) (fun e1 => ?_)
      · (repeat (first | refine lw_pure hT rfl ?_ | (refine lw_gon_t rfl ?_ ?_; focus with_reducible (first | rfl | exact Bool.not_false | exact Bool.not_true))))
        refine lw_load hT rfl rfl (v := g.vP) (hb75.cell 10) ?_
        rw [hvP]
        (repeat (first | refine lw_pure hT rfl ?_ | (refine lw_gon_t rfl ?_ ?_; focus with_reducible (first | rfl | exact Bool.not_false | exact Bool.not_true))))
        refine lw_index hT rfl rfl rfl k rfl hk3 ?_
        (repeat (first | refine lw_pure hT rfl ?_ | (refine lw_gon_t rfl ?_ ?_; focus with_reducible (first | rfl | exact Bool.not_false | exact Bool.not_true))))
        refine lw_load hT rfl rfl (v := .int .i64 (papAt x k).state) (hrP 0 _ rfl) ?_
        (repeat (first | refine lw_pure hT rfl ?_ | (refine lw_gon_t rfl ?_ ?_; focus with_reducible (first | rfl | exact Bool.not_false | exact Bool.not_true))))
        refine lw_guard rfl (fun e2 => ?_) (fun e2 => ?_)
        · (repeat (first | refine lw_pure hT rfl ?_ | (refine lw_gon_t rfl ?_ ?_; focus with_reducible (first | rfl | exact Bool.not_false | exact Bool.not_true))))
          refine lw_load hT rfl rfl (v := g.vP) (hb75.cell 10) ?_
          rw [hvP]
          (repeat (first | refine lw_pure hT rfl ?_ | (refine lw_gon_t rfl ?_ ?_; focus with_reducible (first | rfl | exact Bool.not_false | exact Bool.not_true))))
          refine lw_index hT rfl rfl rfl k rfl hk3 ?_
          (repeat (first | refine lw_pure hT rfl ?_ | (refine lw_gon_t rfl ?_ ?_; focus with_reducible (first | rfl | exact Bool.not_false | exact Bool.not_true))))
          refine lw_load hT rfl rfl (v := .string (papAt x k).holder) (hrP 1 _ rfl) ?_
          (repeat (first | refine lw_pure hT rfl ?_ | refine lw_nil ?_ | refine qw_then ?_ | (refine lw_gon_t rfl ?_ ?_; focus with_reducible (first | rfl | exact Bool.not_false | exact Bool.not_true))))
          refine cw_cond rfl (fun e3 => ?_) (fun e3 => ?_)
          · (repeat (first | (refine lw_add rfl rfl ?_ ?_ ?_; iterate 2 omega) | refine lw_pure hT rfl ?_ | refine lw_nil ?_ | refine cw_region ?_ | refine qw_then ?_ | refine qw_block ?_))
            refine qw_round (k + 1) ?_ ⟨hk3, rfl⟩ (by omega)
            rw [hany, e1, e2, e3, Bool.and_true, Bool.and_true, Bool.or_true]
            exact (by repeat (first | exact trivial | refine ⟨rfl, ?_⟩))
          · (repeat (first | (refine lw_add rfl rfl ?_ ?_ ?_; iterate 2 omega) | refine lw_pure hT rfl ?_ | refine lw_nil ?_ | refine cw_region ?_ | refine qw_then ?_ | refine cw_skip ?_ | refine qw_block ?_))
            refine qw_round (k + 1) ?_ ⟨hk3, rfl⟩ (by omega)
            rw [no (by rw [e3, Bool.and_false, Bool.and_false])]
            exact (by repeat (first | exact trivial | refine ⟨rfl, ?_⟩))
        · (repeat (first | (refine lw_add rfl rfl ?_ ?_ ?_; iterate 2 omega) | refine lw_pure hT rfl ?_ | refine lw_nil ?_ | refine cw_region ?_ | refine qw_then ?_ | refine cw_skip ?_ | (refine lw_goff_f rfl ?_ ?_; focus with_reducible (first | rfl | exact Bool.not_false | exact Bool.not_true)) | refine qw_block ?_ | (refine cw_cond_f rfl ?_ ?_; focus with_reducible (first | rfl | exact Bool.not_false | exact Bool.not_true))))
          refine qw_round (k + 1) ?_ ⟨hk3, rfl⟩ (by omega)
          rw [no (by rw [e2, Bool.false_and, Bool.and_false])]
          exact (by repeat (first | exact trivial | refine ⟨rfl, ?_⟩))
      · (repeat (first | (refine lw_add rfl rfl ?_ ?_ ?_; iterate 2 omega) | refine lw_pure hT rfl ?_ | refine lw_nil ?_ | refine cw_region ?_ | refine qw_then ?_ | refine cw_skip ?_ | (refine lw_goff_f rfl ?_ ?_; focus with_reducible (first | rfl | exact Bool.not_false | exact Bool.not_true)) | refine qw_block ?_ | (refine cw_cond_f rfl ?_ ?_; focus with_reducible (first | rfl | exact Bool.not_false | exact Bool.not_true))))
        refine qw_round (k + 1) ?_ ⟨hk3, rfl⟩ (by omega)
        rw [no (by rw [e1, Bool.false_and])]
        exact (by repeat (first | exact trivial | refine ⟨rfl, ?_⟩))
    · have : k = 3 := by have := of_decide_eq_false e; omega
      subst this
      have e3 : x.ps.take 3 = x.ps := by rw [← hE.three]; exact List.take_length
      have eh : ((x.ps.take 3).any fun q => decide (x.state = 0) && (decide (q.state = 0) && decide (q.holder = who))) = x.holds who := by
        rw [e3]
        unfold EntD.holds
        cases decide (x.state = 0) with
        | true => simp
        | false => simp
      rw [eh]
      have hu5 := hu.ex hx35
      (repeat (first | refine lw_pure hT rfl ?_ | refine lw_nil ?_ | refine cw_seq ?_ | refine cw_region ?_ | refine qw_then ?_ | refine cw_exit ?_ | refine qw_block_exit ?_ | refine qw_then_exit ?_))
      refine cw_cond rfl (fun eh' => ?_) (fun eh' => ?_)
      · (repeat (first | refine lw_pure hT rfl ?_ | refine cw_region ?_))
        refine lw_load hT rfl rfl (v := .string x.bill.number) (hb75.cell 0) ?_
        skip
        refine lw_call hT rfl rfl (r23_put' x.bill.number hu5 (by have := (hx03.trans hx35).size; omega) (by rw [putAll_len]; have := List.length_filter_le (fun e : EntD => e.holds who) (l.take i); simp at this ⊢; omega)) ?_
        rintro u' w6 ⟨hu', hx6⟩
        (repeat (first | (refine lw_add rfl rfl ?_ ?_ ?_; iterate 2 omega) | refine lw_pure hT rfl ?_ | refine lw_nil ?_ | refine cw_region ?_ | refine qw_then ?_ | refine qw_block ?_))
        refine qw_round (x := (i, u)) (i + 1, u') (by repeat (first | exact trivial | refine ⟨rfl, ?_⟩)) ⟨hlt, (hx3.trans hx35).trans hx6, ?_⟩ (by show l.length - (i + 1) < l.length - i; omega)
        rw [etake, List.filter_append, List.map_append]
        simp only [List.filter_cons, eh', if_true, List.filter_nil, List.map_cons, List.map_nil]
        rw [putAll_snoc]; exact hu'
      · (repeat (first | (refine lw_add rfl rfl ?_ ?_ ?_; iterate 2 omega) | refine lw_pure hT rfl ?_ | refine lw_nil ?_ | refine cw_region ?_ | refine qw_then ?_ | refine cw_skip ?_ | refine qw_block ?_))
        refine qw_round (x := (i, u)) (i + 1, u) (by repeat (first | exact trivial | refine ⟨rfl, ?_⟩)) ⟨hlt, hx3.trans hx35, ?_⟩ (by show l.length - (i + 1) < l.length - i; omega)
        rw [etake, List.filter_append, List.map_append]
        simp only [List.filter_cons, eh', List.filter_nil, List.map_nil, List.append_nil, Bool.false_eq_true, if_false]
        exact hu5
  · have : i = l.length := by have := of_decide_eq_false e; omega
    subst this
    rw [List.take_length] at hu
    (repeat (first | refine lw_pure hT rfl ?_ | refine lw_nil ?_ | refine cw_seq ?_ | refine cw_region ?_ | refine qw_then ?_ | refine cw_ret ?_ | refine cw_exit ?_ | refine qw_block_exit ?_ | refine qw_then_exit ?_))
    exact qw_ret rfl ⟨hu, hx03⟩
end Go.Proofs.YtnglkhnfmbnfeaaGreat
namespace Go.SK
open Go
attribute [local semireducible] Ret
theorem ret_mk {P : Program} {f : FuncId} {args : List Value} {w : World} {R : Value → World → Prop} (h : Calls P f ⟨args⟩ w fun e w' => ∃ v, e = .returned v ∧ R v w') : Ret P f args w R := h
theorem ex_of_below {w w' : World} (h : Go.RowKit.Below w.heap.size w w') : Ex w w' := by
  obtain ⟨h1, h2, h3, h4, h5⟩ := h
  exact ⟨h1, h2, h3, h4, fun k hk _ => h5 k hk⟩
end Go.SK
namespace Go.Proofs.YtnglkhnfmbnfeaaGreat
open Go Go.SK Go.RowKit Go.Maps Go.Sort Go.Shelf
theorem sorts_at (m : Nat) : AnyZ.SortsIn Tryz.prog Tryz.sorted48_ren Fence.wide m :=
  ⟨fun blk off cap ss W hH hblk hsz => callsIn_wide.2 (AnyM.slices_Sort_string Tryz.sort96 blk off cap ss W hH hblk hsz),
   fun p cap W => callsIn_wide.2 (AnyM.slices_Sort_string_none Tryz.sort96 p cap W)⟩
theorem maps_Keys (mb : Option Nat) (W : World) : Ret Tryz.prog 49 [.map mb] W fun v w' => v = .func (.func 97) #[] #[.pointer (some ⟨W.heap.size, 0, none⟩)] ∧ w' = W.alloc (.cells #[.map mb] 78) :=
  ret_mk ((callsIn_wide.1 (AnyZ.keys_in Tryz.keys49 Fence.wide 5 trivial rfl mb W)).mono fun _ _ ⟨h1, h2⟩ => ⟨_, h1, rfl, h2⟩)
set_option maxHeartbeats 1000000 in
theorem sorted_keys {H : Type} (b nn : Nat) (D0 : DataW H) (R : Value → Option (DataW H × List MemPlace)) (w : World) (hown : w.ownsMap Tryz.prog 9 R b nn D0) (hmax : Maps.size D0 ≤ maxLen) (hbytes : Maps.size D0 * 16 ≤ 140737488355328) :
    Ret Tryz.prog 48 [.func (.func 97) #[] #[.pointer (some ⟨w.heap.size, 0, none⟩)]] (w.alloc (.cells #[.map (some b)] 78)) fun v w' => (∃ ss : List (List UInt8), ss.Perm (strKeys D0) ∧
      w'.ownsRow (w.alloc (.cells #[.map (some b)] 78)).heap.size 9 1 v ss.length ((ss.mergeSort (fun x y => decide (x ≤ y))).map encStr)) ∧ Ex (w.alloc (.cells #[.map (some b)] 78)) w' := by
  have hbl := hown.lt
  have hseq : SeqGives Fence.wide 2 Tryz.prog 97 #[.pointer (some ⟨w.heap.size, 0, none⟩)] encStr (fun ss => ss.Perm (strKeys D0)) (Maps.size D0) (w.alloc (.cells #[.map (some b)] 78)) :=
    AnyZ.keys_gives (ρ := Tryz.keys49_ren) { Tryz.keys49 with } Fence.wide _ trivial rfl (by omega) w.heap.size b nn D0 _ (by simp) (by simp) (by
      obtain ⟨es, clock, hb, Ft, hs, hD⟩ := hown
      exact ⟨es, clock, (Below.heap_alloc _ _ b hbl).trans hb, Ft, hs, hD⟩)
  have := AnyZ.sorted_in Tryz.sorted48 Fence.wide 5 trivial trivial trivial trivial rfl (by omega) (sorts_at _) (enters_of Tryz.func96 (by kernel_rfl) rfl) 97 #[.pointer (some ⟨w.heap.size, 0, none⟩)] trivial (enters_of Tryz.func97 (by kernel_rfl) rfl) _ _ hmax hbytes _ hseq
  exact ret_mk ((callsIn_wide.1 this).mono fun _ _ ⟨v, ss, h1, h2, h3, _, h5⟩ => ⟨v, h1, ⟨ss, h2, h3⟩, ex_of_below h5⟩)
structure Mw (w : World) (b : Nat) (es : List (ByteArray × Value)) : Prop where
  is : ∃ ents clock, w.heap[b]? = some (.map ents clock) ∧ ents.toList.map (fun e => (e.key, e.val)) = es.map (fun e => (Value.string e.1, e.2)) ∧ (∀ x ∈ ents.toList, x.born < clock) ∧ (ents.toList.map (·.born)).Nodup
theorem Mw.of {w : World} {b : Nat} {es : List (ByteArray × Value)} (h : Mp w b es) : Mw w b es := by
  obtain ⟨ents, clock, h1, h2, h3, h4⟩ := h.is
  refine ⟨ents, clock, h1, h2, fun x hx => ?_, by rw [h3]; exact List.nodup_range⟩
  have : x.born ∈ ents.toList.map (·.born) := List.mem_map.2 ⟨x, hx, rfl⟩
  rw [h3] at this
  rw [h4]; simpa using this
theorem owns_ofW {w : World} {m : Nat} {es : List (ByteArray × Value)} (hm : Mw w m es) (hk : ∀ e ∈ es, e.1.size ≤ maxLen) (hn : es.length ≤ maxLen) (hd : (es.map (·.1)).Nodup) :
    ∃ D : DataW Unit, w.ownsMap Tryz.prog 9 (fun _ => some (.nil, [])) m es.length D ∧ Maps.size D = es.length ∧ (strKeys D).Perm (es.map fun e => e.1.data.toList) := by
  obtain ⟨ents, clock, h1, h2, h3, h4⟩ := hm.is
  have us : Tryz.prog.underlying 9 = some .string := by kernel_rfl
  have hkeys : ents.toList.map (·.key) = es.map fun e => Value.string e.1 := by
    have := congrArg (List.map (·.1)) h2
    rw [List.map_map, List.map_map] at this
    exact this
  have hlen : ents.size = es.length := by have := congrArg List.length h2; simpa using this
  have hmem : ∀ x ∈ ents.toList, ∃ e ∈ es, x.key = .string e.1 := by
    intro x hx
    have : x.key ∈ ents.toList.map (·.key) := List.mem_map.2 ⟨x, hx, rfl⟩
    rw [hkeys] at this
    obtain ⟨e, he, hek⟩ := List.mem_map.1 this
    exact ⟨e, he, hek.symm⟩
  have hko : ∀ s : ByteArray, s.size ≤ maxLen → keyOf Tryz.prog 9 (.string s) = some (.string s.data.toList) := by
    intro s hs
    simp [keyOf, us, mapKey, hs]
  have hrd : ∀ x ∈ ents.toList, ∀ e ∈ es, x.key = .string e.1 → Go.WideElems.rd (H := Unit) Tryz.prog 9 (fun _ => some (.nil, [])) x = some (.string e.1.data.toList, .nil) := by
    intro x _ e he hx
    unfold Go.WideElems.rd
    rw [hx, hko _ (hk e he)]
    rfl
  have hfit : Go.WideElems.Fit (H := Unit) Tryz.prog 9 (fun _ => some (.nil, [])) ents clock := by
    refine ⟨by rw [hlen]; exact hn, ⟨?_, ?_, ?_⟩, ?_⟩
    · intro x hx
      exact h3 x hx
    · exact h4
    · rw [hkeys]
      have : (es.map fun e => Value.string e.1) = (es.map (·.1)).map Value.string := by simp
      rw [this]
      exact List.pairwise_map.2 (List.Pairwise.imp (fun hne e => hne (by injection e)) hd)
    · intro x hx
      obtain ⟨e, he, hxe⟩ := hmem x hx
      exact ⟨_, hrd x hx e he hxe⟩
  refine ⟨_, ⟨ents, clock, h1, hfit, by omega, rfl⟩, ?_, ?_⟩
  · show ((ents.toList.map _).foldr DataW.insert []).length = es.length
    rw [(Go.WideShapes.sorted_perm _).length_eq]
    simp [hlen]
  · show (((ents.toList.map _).foldr DataW.insert []).map fun p => strOf p.1).Perm _
    refine ((Go.WideShapes.sorted_perm _).map _).trans ?_
    have e1 : ((ents.toList.map (Go.WideElems.rg (H := Unit) Tryz.prog 9 fun _ => some (.nil, []))).map fun p => strOf p.1) = es.map fun e => e.1.data.toList := by
      have e2 : ((ents.toList.map (Go.WideElems.rg (H := Unit) Tryz.prog 9 fun _ => some (.nil, []))).map fun p => strOf p.1) = (ents.toList.map (·.key)).map fun v => match v with | .string s => s.data.toList | _ => [] := by
        rw [List.map_map, List.map_map]
        apply List.map_congr_left
        intro x hx
        obtain ⟨e, he, hxe⟩ := hmem x hx
        simp only [Function.comp, Go.WideElems.rg, hrd x hx e he hxe, Option.getD_some, hxe]
        rfl
      rw [e2, hkeys, List.map_map]
      rfl
    rw [e1]
theorem owns_of {w : World} {m : Nat} {es : List (ByteArray × Value)} (hm : Mp w m es) (hk : ∀ e ∈ es, e.1.size ≤ maxLen) (hn : es.length ≤ maxLen) (hd : (es.map (·.1)).Nodup) :
    ∃ D : DataW Unit, w.ownsMap Tryz.prog 9 (fun _ => some (.nil, [])) m es.length D ∧ Maps.size D = es.length ∧ (strKeys D).Perm (es.map fun e => e.1.data.toList) := owns_ofW (.of hm) hk hn hd
def ofBytes (l : List UInt8) : ByteArray := ⟨l.toArray⟩
theorem ofBytes_inv (s : ByteArray) : ofBytes s.data.toList = s := by unfold ofBytes; simp
section
variable {w : World} {p : Nat} {r : RegD} {m : Nat} {gs : List GhostE}
def BillsR (r : RegD) (N : Nat) (w' : World) (v : Value) : Prop := ∃ L, Rising L ∧ L.Perm r.nums ∧ w'.ownsRow N 9 1 v L.length (L.map Value.string)
theorem reg_Bills (hR : Rep w p r m gs) (hsz : ∀ e ∈ r.l, e.bill.number.size ≤ maxLen) (hl : r.l.length ≤ 256) : Ret Tryz.prog 21 [.pointer (some ⟨p, 0, none⟩)] w fun v w' => BillsR r w.heap.size w' v ∧ Ex w w' := by
  obtain ⟨es, hmp, hpm⟩ := hR.map
  have hkeys := hR.keys
  have hnum : (mapOf r.l gs).map (·.1) = r.nums := by
    have key : ∀ (l : List EntD) (gs : List GhostE), l.length = gs.length → (mapOf l gs).map (·.1) = l.map (·.bill.number) := by
      intro l
      induction l with
      | nil => intro gs _; rfl
      | cons a l ih =>
        intro gs hg
        cases gs with
        | nil => simp at hg
        | cons g gs => rw [mapOf_cons, List.map_cons, ih gs (by simpa using hg), List.map_cons]
    exact key r.l gs hR.len
  have hpn : (es.map (·.1)).Perm r.nums := by rw [← hnum]; exact hpm.map _
  have hnd : (es.map (·.1)).Nodup := hpn.nodup_iff.2 hR.nd.nums
  have hel : es.length = r.l.length := by have := hpn.length_eq; simpa [RegD.nums] using this
  have hks : ∀ e ∈ es, e.1.size ≤ maxLen := by
    intro e he
    have : e.1 ∈ r.nums := hpn.mem_iff.1 (List.mem_map.2 ⟨e, he, rfl⟩)
    obtain ⟨x, hx, hxe⟩ := List.mem_map.1 this
    rw [← hxe]; exact hsz x hx
  obtain ⟨D, hD1, hD2, hD3⟩ := owns_of hmp hks (by unfold maxLen; omega) hnd
  refine ret_of Tryz.func21 Tryz.ntmps21 rfl rfl rfl ?_
  (repeat (first | refine lw_pure hT rfl ?_ | refine lw_nil ?_ | refine cw_seq ?_ | refine cw_region ?_ | refine qw_then ?_))
  refine lw_load hT rfl rfl (v := .map (some m)) (hR.blk.cell 1) ?_
  skip
  refine lw_call hT rfl rfl (maps_Keys (some m) w) ?_
  rintro _ _ ⟨rfl, rfl⟩
  skip
  refine lw_call hT rfl rfl (sorted_keys m es.length D _ w hD1 (by rw [hD2]; unfold maxLen; omega) (by rw [hD2]; omega)) ?_
  rintro u w2 ⟨⟨ss, hss, hown⟩, hx2⟩
  have hx1 : Ex w (w.alloc (.cells #[.map (some m)] 78)) := Ext.alloc _ _
  have hpb : ss.Perm (es.map fun e => e.1.data.toList) := hss.trans hD3
  have tr : ∀ a b c : List UInt8, decide (a ≤ b) = true → decide (b ≤ c) = true → decide (a ≤ c) = true := fun a b c h1 h2 => by simp only [decide_eq_true_eq] at *; exact List.le_trans h1 h2
  have to : ∀ a b : List UInt8, (decide (a ≤ b) || decide (b ≤ a)) = true := fun a b => by simp only [Bool.or_eq_true, decide_eq_true_eq]; exact List.le_total a b
  have hms := List.mergeSort_perm ss (fun x y => decide (x ≤ y))
  have hsorted := List.pairwise_mergeSort tr to ss
  generalize ss.mergeSort (fun x y => decide (x ≤ y)) = S at hown hms hsorted
  have hSl : S.length = ss.length := hms.length_eq
  have hSp : S.Perm (es.map fun e => e.1.data.toList) := hms.trans hpb
  have hSn : S.Nodup := by
    refine hSp.nodup_iff.2 ?_
    have : (es.map fun e => e.1.data.toList) = (es.map (·.1)).map fun s => s.data.toList := by simp
    rw [this]
    exact List.pairwise_map.2 (List.Pairwise.imp (fun hne e => hne (by have := congrArg ofBytes e; rwa [ofBytes_inv, ofBytes_inv] at this)) hnd)
  (repeat (first | refine lw_pure hT rfl ?_ | refine lw_nil ?_ | refine qw_then ?_ | refine cw_ret ?_))
  refine qw_ret rfl ⟨⟨S.map ofBytes, ?_, ?_, ?_⟩, hx1.trans hx2⟩
  · unfold Rising
    rw [List.pairwise_map]
    have hne : S.Pairwise (fun a b => a ≠ b) := hSn
    refine (hsorted.and hne).imp fun {a b} ⟨h1, h2⟩ => ?_
    rw [ltB_iff]
    have ea : (ofBytes a).toList = a := by rw [Lib.toList_data]; rfl
    have eb : (ofBytes b).toList = b := by rw [Lib.toList_data]; rfl
    rw [ea, eb]
    have h1 : a ≤ b := of_decide_eq_true h1
    rcases List.le_iff_lt_or_eq.1 h1 with h | h
    · exact h
    · exact absurd h h2
  · have := hSp.map ofBytes
    rw [List.map_map] at this
    have e : (es.map (ofBytes ∘ fun e : ByteArray × Value => e.1.data.toList)) = es.map (·.1) := List.map_congr_left fun e _ => ofBytes_inv e.1
    rw [e] at this
    exact this.trans hpn
  · rw [List.length_map, hSl, List.map_map]
    exact own_mono hown hx1.size
end
end Go.Proofs.YtnglkhnfmbnfeaaGreat
