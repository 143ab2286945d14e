import Derived.Test.YtnglkhnfmbnfeaaGreatMCs7
import Derived.Deep.AppendSrc
set_option linter.unusedVariables false
set_option linter.unusedSimpArgs false
set_option linter.unusedSectionVars false
set_option linter.unnecessarySimpa false
namespace Go.SK
open Go
attribute [local semireducible] CW LW QW Ret Kn
theorem setCells_row (g : Nat) (e : TypeId) : ∀ (vs : List Value) (o : Nat) (w : World) (cur : Array Value), w.heap[g]? = some (.cells cur e (0, 0)) → o + vs.length ≤ cur.size →
    ∃ cur', (w.setCells g o vs).heap[g]? = some (.cells cur' e (0, 0)) ∧ cur'.size = cur.size ∧ (∀ j, j < o → cur'[j]? = cur[j]?) ∧ ∀ j v, vs[j]? = some v → cur'[o + j]? = some v
  | [], o, w, cur, h, _ => ⟨cur, h, rfl, fun _ _ => rfl, fun j v hj => by simp at hj⟩
  | v :: vs, o, w, cur, h, hl => by
    simp only [List.length_cons] at hl
    obtain ⟨cur', h1, h2, h3, h4⟩ := setCells_row g e vs (o + 1) _ (cur.setIfInBounds o v) (heap_setCell_same w g o cur e v h) (by simp; omega)
    refine ⟨cur', h1, by rw [h2]; simp, fun j hj => ?_, fun j u hj => ?_⟩
    · rw [h3 j (by omega), Array.getElem?_setIfInBounds, if_neg (by omega)]
    · cases j with
      | zero =>
        simp only [List.getElem?_cons_zero] at hj
        rw [Nat.add_zero, h3 o (by omega), Array.getElem?_setIfInBounds, if_pos rfl, if_pos (by omega)]
        exact hj
      | succ j =>
        simp only [List.getElem?_cons_succ] at hj
        rw [show o + (j + 1) = o + 1 + j from by omega]
        exact h4 j u hj
def Que (N : Nat) (e : TypeId) (w : World) (v : Value) (l : List ByteArray) : Prop :=
  ∃ g o c cur, v = .slice (some ⟨g, o, none⟩) l.length c ∧ N ≤ g ∧ l.length ≤ c ∧ w.heap[g]? = some (.cells cur e (0, 0)) ∧ o + c ≤ cur.size ∧ ∀ (j : Nat) s, l[j]? = some s → cur[o + j]? = some (.string s)
theorem Que.ext {N : Nat} {e : TypeId} {F : Nat → Prop} {w w' : World} {v : Value} {l : List ByteArray} (h : Que N e w v l) (hx : Ext F w w') (hn : ∀ b, v.ownBlock = some b → ¬ F b) : Que N e w' v l := by
  obtain ⟨g, o, c, cur, rfl, h1, h2, h3, h4⟩ := h
  exact ⟨g, o, c, cur, rfl, h1, h2, (hx.blk g (Array.getElem?_eq_some_iff.1 h3).1 (hn g rfl)).trans h3, h4⟩
theorem Que.lt {N : Nat} {e : TypeId} {w : World} {v : Value} {l : List ByteArray} (h : Que N e w v l) : ∀ b, v.ownBlock = some b → N ≤ b ∧ b < w.heap.size := by
  obtain ⟨g, o, c, cur, rfl, h1, h2, h3, h4⟩ := h
  intro b hb
  cases hb
  exact ⟨h1, (Array.getElem?_eq_some_iff.1 h3).1⟩
theorem Que.of_own {N e : Nat} {w : World} {v : Value} {l : List ByteArray} (h : w.ownsRow N e 1 v l.length (l.map Value.string)) (h0 : 0 < l.length) : Que N e w v l := by
  rcases h.2 with ⟨_, h2⟩ | ⟨g, cap, cur, rfl, h1, h2, h3, h4, h5, h6⟩
  · omega
  · refine ⟨g, 0, cap, cur, rfl, h1, h3, h2, by omega, fun j s hj => ?_⟩
    have : (l.map Value.string)[j]? = some (.string s) := by rw [List.getElem?_map, hj]; rfl
    rw [← h6, List.getElem?_take] at this
    split at this
    · rw [Nat.zero_add]; simpa using this
    · cases this
section
variable {P : Program} {n : Nat} {fr : Fr} {w : World} {Q : Exit → Act → World → Prop} {ops : Array Oper} {rest : List Oper}
theorem lw_append_que {d t e bytes N : Nat} {x y : Operand} {ty : TypeId} {ps : String} {af : Array Edge} {v v2 : Value} {l qs : List ByteArray} {A : Nat → Prop} (hS : SlT P t e 1 bytes)
    (hx : ev n fr x = some v) (hq : Que N e w v l) (hy : ev n fr y = some v2) (hr : Sl A w v2 1 (qs.map fun s => [Value.string s])) (h63 : l.length + qs.length ≤ 1000000) (hb : bytes ≤ 100) (hN : N ≤ w.heap.size)
    (k : ∀ v' w1, Que N e w1 v' (l ++ qs) → Ext (fun k => some k = v.ownBlock) w w1 → (v'.ownBlock = v.ownBlock ∨ v'.ownBlock = some w.heap.size) → LW P ops Q rest n ((d, v') :: fr) w1) :
    LW P ops Q ({ dst := some d, op := .call ⟨.builtin .append, #[x, y], #[t, t]⟩, type := ty, pos := ps, after := af, guard := none } :: rest) n fr w := by
  obtain ⟨hu, i, z, hi, hz, hs, hb', hzs⟩ := hS
  obtain ⟨a2, c2, hv2, hz2, hrd⟩ := hr.is
  simp only [List.length_map] at hv2
  have hsrc : Src P i.size t v2 qs.length (qs.map Value.string) w := by
    subst hv2
    by_cases h0 : qs = []
    · subst h0
      cases a2 with
      | none => exact Src.ofNil w hu c2
      | some a => exact Src.ofSlice w hu a 0 c2 _ (by simp) (fun j u hj => by simp at hj) (fun u hu => by simp at hu)
    · obtain ⟨b, o, rfl, _, hrd⟩ := hrd (by simpa using h0)
      refine Src.ofSlice w hu _ _ c2 _ (by simp [hs]) (fun j u hj => ?_) (fun u hu => by obtain ⟨s, _, rfl⟩ := List.mem_map.1 hu; rfl)
      rw [List.getElem?_map] at hj
      obtain ⟨s, hs1, hs2⟩ := Option.map_eq_some_iff.1 hj
      subst hs2
      have := (hrd j [.string s] (by rw [List.getElem?_map, hs1]; rfl)).2 0 _ rfl
      rw [addr_add]
      simpa using this
  obtain ⟨g, o, c, cur, hv, h1, h2, h3, h4, h5⟩ := hq
  subst hv
  by_cases hroom : l.length + qs.length ≤ c
  · obtain ⟨cur', g1, g2, g3, g4⟩ := setCells_row g e (qs.map Value.string) (o + l.length) w cur h3 (by simp; omega)
    have hrun := run_append_room_src (P := P) w t t ty e i hu hi g o l.length c v2 qs.length (qs.map Value.string) hsrc hroom
      (fun j hj => by
        simp only [List.length_map] at hj
        rw [hs, Nat.mul_one]
        unfold World.cell?
        rw [h3]
        have : o + l.length + j < cur.size := by omega
        simp [this])
      (fun j hj => frozen_of_row w g _ cur e h3)
    rw [hs, Nat.mul_one] at hrun
    refine lw_run rfl rfl (w' := w.setCells g (o + l.length) (qs.map Value.string)) (fun a hk => ?_) (k (.slice (some ⟨g, o, none⟩) (l.length + qs.length) c) _ ⟨g, o, c, cur', by rw [List.length_append], h1, by rw [List.length_append]; exact hroom, g1, by omega, fun j s hj => ?_⟩ ⟨(World.keptBut_setCells g (may := fun _ => True) _ _ w (fun _ _ => trivial)).1, ?_, (World.keptBut_setCells g (may := fun _ => True) _ _ w (fun _ _ => trivial)).2.1, ?_, fun k hk hn => ?_⟩ (.inl rfl))
    · simp [execOp, resolve, invoke, builtin, ev_sound hk hx, ev_sound hk hy, hrun]
    · rw [List.getElem?_append] at hj
      split at hj
      · rename_i hjl
        rw [g3 _ (by omega)]
        exact h5 j s hj
      · rename_i hjl
        have := g4 (j - l.length) (.string s) (by rw [List.getElem?_map, hj]; rfl)
        rw [show o + j = o + l.length + (j - l.length) from by omega]
        exact this
    · have : ∀ (vs : List Value) (o : Nat) (w : World), (w.setCells g o vs).tape = w.tape := by
        intro vs
        induction vs with
        | nil => intro _ _; rfl
        | cons v vs ih => intro o w; exact (ih _ _)
      exact this _ _ _
    · have : ∀ (vs : List Value) (o : Nat) (w : World), (w.setCells g o vs).heap.size = w.heap.size := by
        intro vs
        induction vs with
        | nil => intro _ _; rfl
        | cons v vs ih => intro o w; exact (ih _ _).trans (by simp [World.setCell])
      exact Nat.le_of_eq (this _ _ _).symm
    · have hne : k ≠ g := fun e => hn (by rw [e]; rfl)
      have : ∀ (vs : List Value) (o : Nat) (w : World), (w.setCells g o vs).heap[k]? = w.heap[k]? := by
        intro vs
        induction vs with
        | nil => intro _ _; rfl
        | cons v vs ih => intro o w; exact (ih _ _).trans (heap_setCell_other w ⟨g, o, none⟩ k v hne)
      exact this _ _ _
  · have hold : ∀ j u, (l.map Value.string)[j]? = some u → w.cell? ((⟨g, o, none⟩ : Addr).add j) = some u := by
      intro j u hj
      rw [List.getElem?_map] at hj
      obtain ⟨s, hs1, hs2⟩ := Option.map_eq_some_iff.1 hj
      subst hs2
      rw [addr_add]
      show (match w.heap[g]? with | some (.cells c _ _) => _ | _ => _) = _
      rw [h3]
      simpa using h5 j s hs1
    have hrun := run_append_grow_src (P := P) w t t ty e i z hu hi hz (some ⟨g, o, none⟩) l.length c (l.map Value.string)
      (run_firstCells_some w.drew i.size l.length ⟨g, o, none⟩ l.length c _ (by simp [hs]) (by simpa using hold)) v2 qs.length (qs.map Value.string) hsrc (by omega) (by omega)
      (growslice_fits (by omega) (by rw [hb']; have : (l.length + qs.length) * bytes ≤ 1000000 * 100 := Nat.mul_le_mul h63 hb; omega))
    have hge := grownCap_ge w (l.length + qs.length) c e
    refine lw_run rfl rfl (w' := w.drew.alloc (.cells (((l.map Value.string) ++ (qs.map Value.string)).toArray ++ Builtin.zeroCells z.cells (grownCap w (l.length + qs.length) c e - (l.length + qs.length))) e)) (fun a hk => ?_) (k (.slice (some ⟨w.heap.size, 0, none⟩) (l.length + qs.length) (grownCap w (l.length + qs.length) c e)) _ ⟨w.heap.size, 0, grownCap w (l.length + qs.length) c e, ((l.map Value.string) ++ (qs.map Value.string)).toArray ++ Builtin.zeroCells z.cells (grownCap w (l.length + qs.length) c e - (l.length + qs.length)), by rw [List.length_append], hN, by rw [List.length_append]; exact hge, heap_alloc_new w.drew _, ?_, fun j s hj => ?_⟩ ⟨rfl, rfl, rfl, by simp, fun k hk _ => heap_alloc_old w.drew _ hk⟩ (.inr rfl))
    · simp [execOp, resolve, invoke, builtin, ev_sound hk hx, ev_sound hk hy, hrun]
    · simp only [Array.size_append, List.size_toArray, size_zeroCells, hzs, List.length_append, List.length_map]
      omega
    · have hjl := (List.getElem?_eq_some_iff.1 hj).1
      rw [Nat.zero_add, Array.getElem?_append_left (by simpa using hjl)]
      rw [← List.map_append, List.getElem?_toArray, List.getElem?_map, hj]; rfl
end
end Go.SK
namespace Go.Proofs.YtnglkhnfmbnfeaaGreat
open Go Go.SK
set_option maxHeartbeats 2000000 in
theorem r24_put0 {A : Nat → Prop} {w : World} {b o c : Nat} {l : List ByteArray} (s : ByteArray) (hS : SlS A w (.slice (some ⟨b, o, none⟩) l.length c) l) (hc : l.length ≤ c) (hin : s ∉ l) (hl : l.length ≤ 1000000) :
    Ret Tryz.prog 57 [.slice (some ⟨b, o, none⟩) l.length c, .string s] w fun u w' => w'.ownsRow w.heap.size 9 1 u (l.length + 1) ((putL l s).map Value.string) ∧ Ex w w' := by
  have hS0 := hS
  obtain ⟨a_, c_, hv, _, hr⟩ := hS.is
  have hrow : ∀ i (hi : i < l.length), Rd w b (o + i * 1) [.string l[i]] := by
    intro i hi
    have hne : l.map (fun s => [Value.string s]) ≠ [] := by intro e; simp at e; subst e; simp at hi
    obtain ⟨bb, oo, e, _, hrd⟩ := hr hne
    simp only [Value.slice.injEq] at hv
    have e2 := hv.1.trans e
    simp only [Option.some.injEq, Addr.mk.injEq, and_true] at e2
    obtain ⟨rfl, rfl⟩ := e2
    exact (hrd i [.string l[i]] (by simp [hi])).2
  refine ret_of Tryz.func57 Tryz.ntmps57 rfl rfl rfl ?_
  (iterate 1 (refine cw_seq ?_; refine cw_region ?_; refine lw_pure hT rfl ?_; refine lw_nil ?_; refine qw_then ?_))
  (repeat (first | refine lw_pure hT rfl ?_ | refine cw_seq ?_ | refine cw_region ?_))
  refine lw_call hT rfl rfl (r24_in s w hS) ?_
  rintro _ _ ⟨rfl, rfl⟩
  rw [show (l.any fun y => decide (y = s)) = false from by rw [List.any_eq_false]; intro y hy e; exact hin (of_decide_eq_true e ▸ hy)]
  refine lw_nil ?_
  refine qw_then ?_
  refine cw_cond_false rfl ?_
  refine cw_skip ?_
  refine qw_then ?_
  (iterate 1 (refine cw_seq ?_; refine cw_region ?_; refine lw_pure hT rfl ?_; refine lw_nil ?_; refine qw_then ?_))
  refine cw_seq ?_
  refine cw_then_cut (α := Nat) (fun k => [(0, .slice (some ⟨b, o, none⟩) l.length c), (1, .string s), (5, .int .i64 (k : Nat))]) (fun k w' => Ex w w' ∧ k ≤ l.length ∧ (∀ j (hj : j < l.length), j < k → ltB l[j] s = true) ∧ ∀ hj : k < l.length, ltB l[k] s = false) ?_ ?_
  · refine cw_block ?_
    refine cw_loop (fun k : Nat => [(0, .slice (some ⟨b, o, none⟩) l.length c), (1, .string s), (5, .int .i64 (k : Nat))]) (fun k w' => Ex w w' ∧ k ≤ l.length ∧ ∀ j (hj : j < l.length), j < k → ltB l[j] s = true) (fun k => l.length - k) 0 (by repeat (first | exact trivial | refine ⟨rfl, ?_⟩)) ⟨Ext.refl _ _, Nat.zero_le _, fun j _ hj => by omega⟩ ?_
    rintro k w1 ⟨hx1, hk, hb⟩
    (repeat (first | refine lw_pure hT rfl ?_ | refine cw_seq ?_ | refine cw_region ?_))
    refine lw_guard rfl (fun e => ?_) (fun e => ?_)
    · have hlt : k < l.length := by have := of_decide_eq_true e; omega
      (repeat (first | refine lw_pure hT rfl ?_ | (refine lw_gon_t rfl ?_ ?_; focus with_reducible (first | rfl | exact Bool.not_false | exact Bool.not_true))))
      refine lw_index hT rfl rfl rfl k rfl hlt ?_
      (repeat (refine lw_gon_t rfl ?_ ?_; focus with_reducible (first | rfl | exact Bool.not_false | exact Bool.not_true)))
      refine lw_load hT rfl rfl (v := .string l[k]) (((hrow k hlt).ex hx1) 0 _ rfl) ?_
      (repeat (first | refine lw_pure hT rfl ?_ | refine lw_nil ?_ | refine qw_then ?_ | (refine lw_gon_t rfl ?_ ?_; focus with_reducible (first | rfl | exact Bool.not_false | exact Bool.not_true))))
      refine cw_cond rfl (fun e' => ?_) (fun e' => ?_)
      · (repeat (first | (refine lw_add rfl rfl ?_ ?_ ?_; iterate 2 omega) | refine lw_pure hT rfl ?_ | refine lw_nil ?_ | refine cw_region ?_ | refine qw_then ?_ | refine cw_skip ?_ | refine cw_block ?_ | refine qw_block ?_))
        refine qw_round (k + 1) (by repeat (first | exact trivial | refine ⟨rfl, ?_⟩)) ⟨hx1, hlt, fun j hj hjk => ?_⟩ (by omega)
        by_cases ej : j = k
        · subst ej; exact e'
        · exact hb j hj (by omega)
      · (repeat (first | refine cw_exit ?_ | refine qw_block_exit ?_ | refine qw_then_exit ?_))
        exact qw_cut k (by repeat (first | exact trivial | refine ⟨rfl, ?_⟩)) ⟨hx1, hk, hb, fun _ => e'⟩
    · have hge : ¬ k < l.length := by have := of_decide_eq_false e; omega
      (repeat (first | refine lw_pure hT rfl ?_ | refine lw_nil ?_ | refine qw_then ?_ | (refine lw_goff_f rfl ?_ ?_; focus with_reducible (first | rfl | exact Bool.not_false | exact Bool.not_true)) | refine cw_exit ?_ | refine qw_block_exit ?_ | refine qw_then_exit ?_ | (refine cw_cond_f rfl ?_ ?_; focus with_reducible (first | rfl | exact Bool.not_false | exact Bool.not_true))))
      exact qw_cut k (by repeat (first | exact trivial | refine ⟨rfl, ?_⟩)) ⟨hx1, hk, hb, fun h => absurd h hge⟩
  rintro k w1 ⟨hx1, hk, hb, h2⟩
  have fin : ∀ (u3 : Value) (w9 : World), w9.ownsRow w1.heap.size 9 1 u3 (k + 1 + (l.length - k)) (((((l.map fun s => [Value.string s]).take k).flatten ++ [Value.string s])) ++ ((l.map fun s => [Value.string s]).drop k).flatten) →
      w9.ownsRow w.heap.size 9 1 u3 (l.length + 1) ((putL l s).map Value.string) := by
    intro u3 w9 h
    rw [putL_at hk hb h2]
    have e1 : ((l.map fun s => [Value.string s]).take k).flatten = (l.take k).map Value.string := by rw [← List.map_take]; exact flat4 _
    have e2 : ((l.map fun s => [Value.string s]).drop k).flatten = (l.drop k).map Value.string := by rw [← List.map_drop]; exact flat4 _
    rw [e1, e2, show k + 1 + (l.length - k) = l.length + 1 from by omega] at h
    have := own_mono h hx1.size
    simpa using this
  have hS1 := hS.ex hx1
  have hzl : (l.map fun s => [Value.string s]).length = l.length := List.length_map _
  have hTk := hS1.cutTo (i := k) (by rw [hzl]; exact hk)
  have hDr := hS1.cutFrom (i := k) (m := l.length - k) (by rw [hzl]; exact hk) (by rw [hzl]) hc
  have hTkl : ((l.map fun s => [Value.string s]).take k).length = k := by rw [List.length_take, hzl]; omega
  have hDrl : ((l.map fun s => [Value.string s]).drop k).length = l.length - k := by rw [List.length_drop, hzl]
  have hone : ∀ r ∈ (l.map fun s => [Value.string s]), ∀ u ∈ r, u.oneCell' = true := by intro r hr u hu; obtain ⟨x, _, rfl⟩ := List.mem_map.1 hr; simp at hu; subst hu; rfl
  have hTk1 : ∀ r ∈ (l.map fun s => [Value.string s]).take k, ∀ u ∈ r, u.oneCell' = true := fun r hr => hone r (List.mem_of_mem_take hr)
  have hDr1 : ∀ r ∈ (l.map fun s => [Value.string s]).drop k, ∀ u ∈ r, u.oneCell' = true := fun r hr => hone r (List.mem_of_mem_drop hr)
  (repeat (first | refine cw_seq ?_ | refine qw_then ?_))
  refine cw_draw hM (fun w' => Ex w1 w') [] rfl rfl (by repeat with_reducible (first | refine nop_then ?_ | refine nop_block ?_ | exact nop_body)) (fun w2 hx2 _ => ⟨hx2, ?_⟩)
  (refine rw_takeP 1 rfl rfl (by kernel_rfl) (by kernel_rfl) (by kernel_rfl) (by kernel_rfl) rfl (yo_pure hT rfl) ?_; refine rw_takeP 2 rfl rfl (by kernel_rfl) (by kernel_rfl) (by kernel_rfl) (by kernel_rfl) rfl (yo_pure hT rfl) ?_)
  refine rw_takeP 3 rfl rfl (by kernel_rfl) (by kernel_rfl) (by kernel_rfl) (by kernel_rfl) rfl (yo_slice_sl hT rfl rfl rfl rfl 0 k rfl rfl (Nat.zero_le _) (by omega)) ?_
  (refine rw_takeP 5 rfl rfl (by kernel_rfl) (by kernel_rfl) (by kernel_rfl) (by kernel_rfl) rfl (yo_pure hT rfl) ?_; refine rw_takeP 8 rfl rfl (by kernel_rfl) (by kernel_rfl) (by kernel_rfl) (by kernel_rfl) rfl (yo_pure hT rfl) ?_; refine rw_takeP 9 rfl rfl (by kernel_rfl) (by kernel_rfl) (by kernel_rfl) (by kernel_rfl) rfl (yo_pure hT rfl) ?_)
  refine rw_takeP 10 rfl rfl (by kernel_rfl) (by kernel_rfl) (by kernel_rfl) (by kernel_rfl) rfl (yo_slice_sl hT rfl rfl rfl rfl k l.length rfl rfl hk hc) ?_
  skip
  refine rw_two 0 6 rfl rfl (by kernel_rfl) rfl rfl (fun hcl => ?_) (fun hcl => ?_)
  · refine lw_buildSlice sl31 rfl rfl rfl ?_
    intro e0 w3 he0 hbe0 hx3 hs3
    have hC3 := hx2.trans hx3
    have own3 : w3.ownsRow w1.heap.size 9 1 (.slice (some ⟨e0, 0, none⟩) 0 0) 0 [] := own_lit hbe0 (by have := hx2.size; omega) rfl (by decide)
    (repeat (refine lw_nil ?_))
    refine qw_rw (by repeat with_reducible (first | refine nop_then ?_ | refine nop_block ?_ | exact nop_body)) hcl (fun _ => hC3) ?_
    refine rw_two 4 6 rfl rfl (by kernel_rfl) rfl rfl (fun hcl => ?_) (fun hcl => ?_)
    · refine lw_append_sl sl31 (by decide) rfl own3 rfl (hTk.ex hC3) hTk1 (by rw [hTkl]; unfold maxLen; omega) (by rw [hTkl]; omega) (by have := hC3.size; omega) ?_
      intro u1 w4 q1 q2 q3 q4
      have hC4 : Ex w1 w4 := hC3.up_new q2 (fun i h => by simp [Value.ownBlock] at h; have := hx2.size; have := hC3.size; omega)
      rw [Nat.zero_add, List.nil_append, hTkl] at q1
      (repeat (refine lw_nil ?_))
      refine qw_rw (by repeat with_reducible (first | refine nop_then ?_ | refine nop_block ?_ | exact nop_body)) hcl (fun _ => hC4) ?_
      refine rw_one 6 rfl (by kernel_rfl) rfl (fun hcl => ?_)
      refine lw_buildSlice sl31 rfl rfl rfl ?_
      intro e7 w5 he7 hbe7 hx5 hs5
      replace hbe7 : Blk w5 e7 ([Value.string s]) 9 := hbe7
      have hC5 := hC4.trans hx5
      have own5 := own_ex q1 hx5
      (repeat (refine lw_nil ?_))
      refine qw_rw (by repeat with_reducible (first | refine nop_then ?_ | refine nop_block ?_ | exact nop_body)) hcl (fun _ => hC5) ?_
      refine rw_one 7 rfl (by kernel_rfl) rfl (fun hcl => ?_)
      refine lw_append sl31 (by decide) rfl own5 rfl (hbe7.rd 0 1) rfl (by intro u hu; simp at hu; subst hu; rfl) (by unfold maxLen; omega) (by omega) (by have := hC5.size; omega) ?_
      intro u2 w6 k1 k2 k3 k4
      have hC6 : Ex w1 w6 := hC5.up_new k2 (fun i h => (own_base q1 h.symm).1)
      (repeat (refine lw_nil ?_))
      refine qw_rw (by repeat with_reducible (first | refine nop_then ?_ | refine nop_block ?_ | exact nop_body)) hcl (fun _ => hC6) ?_
      refine rw_one 11 rfl (by kernel_rfl) rfl (fun hcl => ?_)
      refine lw_append_sl sl31 (by decide) rfl k1 rfl (hDr.ex hC6) hDr1 (by rw [hDrl]; unfold maxLen; omega) (by rw [hDrl]; omega) (by have := hC6.size; omega) ?_
      intro u3 w7 m1 m2 m3 m4
      have hC7 : Ex w1 w7 := hC6.up_new m2 (fun i h => (own_base k1 h.symm).1)
      rw [hDrl] at m1
      (repeat (refine lw_nil ?_))
      refine qw_rw (by repeat with_reducible (first | refine nop_then ?_ | refine nop_block ?_ | exact nop_body)) hcl (fun _ => hC7) ?_
      (refine rw_takeP 12 rfl rfl (by kernel_rfl) (by kernel_rfl) (by kernel_rfl) (by kernel_rfl) rfl (yo_pure hT rfl) ?_)
      refine rw_done (by kernel_rfl) ?_
      (repeat (first | refine qw_then ?_ | refine cw_ret ?_))
      exact qw_ret rfl ⟨fin u3 w7 m1, hx1.trans hC7⟩
    · refine lw_buildSlice sl31 rfl rfl rfl ?_
      intro e7 w4 he7 hbe7 hx4 hs4
      replace hbe7 : Blk w4 e7 ([Value.string s]) 9 := hbe7
      have hC4 := hC3.trans hx4
      have own4 := own_ex own3 hx4
      (repeat (refine lw_nil ?_))
      refine qw_rw (by repeat with_reducible (first | refine nop_then ?_ | refine nop_block ?_ | exact nop_body)) hcl (fun _ => hC4) ?_
      refine rw_one 4 rfl (by kernel_rfl) rfl (fun hcl => ?_)
      refine lw_append_sl sl31 (by decide) rfl own4 rfl (hTk.ex hC4) hTk1 (by rw [hTkl]; unfold maxLen; omega) (by rw [hTkl]; omega) (by have := hC4.size; omega) ?_
      intro u1 w5 q1 q2 q3 q4
      have hC5 : Ex w1 w5 := hC4.up_new q2 (fun i h => by simp [Value.ownBlock] at h; have := hx2.size; have := hC3.size; omega)
      rw [Nat.zero_add, List.nil_append, hTkl] at q1
      have be5 := hbe7.ext q2 (by simp [Value.ownBlock]; have := hC4.size; omega)
      (repeat (refine lw_nil ?_))
      refine qw_rw (by repeat with_reducible (first | refine nop_then ?_ | refine nop_block ?_ | exact nop_body)) hcl (fun _ => hC5) ?_
      refine rw_one 7 rfl (by kernel_rfl) rfl (fun hcl => ?_)
      refine lw_append sl31 (by decide) rfl q1 rfl (be5.rd 0 1) rfl (by intro u hu; simp at hu; subst hu; rfl) (by unfold maxLen; omega) (by omega) (by have := hC5.size; omega) ?_
      intro u2 w6 k1 k2 k3 k4
      have hC6 : Ex w1 w6 := hC5.up_new k2 (fun i h => (own_base q1 h.symm).1)
      (repeat (refine lw_nil ?_))
      refine qw_rw (by repeat with_reducible (first | refine nop_then ?_ | refine nop_block ?_ | exact nop_body)) hcl (fun _ => hC6) ?_
      refine rw_one 11 rfl (by kernel_rfl) rfl (fun hcl => ?_)
      refine lw_append_sl sl31 (by decide) rfl k1 rfl (hDr.ex hC6) hDr1 (by rw [hDrl]; unfold maxLen; omega) (by rw [hDrl]; omega) (by have := hC6.size; omega) ?_
      intro u3 w7 m1 m2 m3 m4
      have hC7 : Ex w1 w7 := hC6.up_new m2 (fun i h => (own_base k1 h.symm).1)
      rw [hDrl] at m1
      (repeat (refine lw_nil ?_))
      refine qw_rw (by repeat with_reducible (first | refine nop_then ?_ | refine nop_block ?_ | exact nop_body)) hcl (fun _ => hC7) ?_
      (refine rw_takeP 12 rfl rfl (by kernel_rfl) (by kernel_rfl) (by kernel_rfl) (by kernel_rfl) rfl (yo_pure hT rfl) ?_)
      refine rw_done (by kernel_rfl) ?_
      (repeat (first | refine qw_then ?_ | refine cw_ret ?_))
      exact qw_ret rfl ⟨fin u3 w7 m1, hx1.trans hC7⟩
  · refine lw_buildSlice sl31 rfl rfl rfl ?_
    intro e7 w3 he7 hbe7 hx3 hs3
    replace hbe7 : Blk w3 e7 ([Value.string s]) 9 := hbe7
    have hC3 := hx2.trans hx3
    (repeat (refine lw_nil ?_))
    refine qw_rw (by repeat with_reducible (first | refine nop_then ?_ | refine nop_block ?_ | exact nop_body)) hcl (fun _ => hC3) ?_
    refine rw_one 0 rfl (by kernel_rfl) rfl (fun hcl => ?_)
    refine lw_buildSlice sl31 rfl rfl rfl ?_
    intro e0 w4 he0 hbe0 hx4 hs4
    have hC4 := hC3.trans hx4
    have own4 : w4.ownsRow w1.heap.size 9 1 (.slice (some ⟨e0, 0, none⟩) 0 0) 0 [] := own_lit hbe0 (by have := hC3.size; omega) rfl (by decide)
    have be4 := hbe7.ex hx4
    (repeat (refine lw_nil ?_))
    refine qw_rw (by repeat with_reducible (first | refine nop_then ?_ | refine nop_block ?_ | exact nop_body)) hcl (fun _ => hC4) ?_
    refine rw_one 4 rfl (by kernel_rfl) rfl (fun hcl => ?_)
    refine lw_append_sl sl31 (by decide) rfl own4 rfl (hTk.ex hC4) hTk1 (by rw [hTkl]; unfold maxLen; omega) (by rw [hTkl]; omega) (by have := hC4.size; omega) ?_
    intro u1 w5 q1 q2 q3 q4
    have hC5 : Ex w1 w5 := hC4.up_new q2 (fun i h => by simp [Value.ownBlock] at h; have := hx2.size; have := hC3.size; omega)
    rw [Nat.zero_add, List.nil_append, hTkl] at q1
    have be5 := be4.ext q2 (by simp [Value.ownBlock]; have := hC4.size; omega)
    (repeat (refine lw_nil ?_))
    refine qw_rw (by repeat with_reducible (first | refine nop_then ?_ | refine nop_block ?_ | exact nop_body)) hcl (fun _ => hC5) ?_
    refine rw_one 7 rfl (by kernel_rfl) rfl (fun hcl => ?_)
    refine lw_append sl31 (by decide) rfl q1 rfl (be5.rd 0 1) rfl (by intro u hu; simp at hu; subst hu; rfl) (by unfold maxLen; omega) (by omega) (by have := hC5.size; omega) ?_
    intro u2 w6 k1 k2 k3 k4
    have hC6 : Ex w1 w6 := hC5.up_new k2 (fun i h => (own_base q1 h.symm).1)
    (repeat (refine lw_nil ?_))
    refine qw_rw (by repeat with_reducible (first | refine nop_then ?_ | refine nop_block ?_ | exact nop_body)) hcl (fun _ => hC6) ?_
    refine rw_one 11 rfl (by kernel_rfl) rfl (fun hcl => ?_)
    refine lw_append_sl sl31 (by decide) rfl k1 rfl (hDr.ex hC6) hDr1 (by rw [hDrl]; unfold maxLen; omega) (by rw [hDrl]; omega) (by have := hC6.size; omega) ?_
    intro u3 w7 m1 m2 m3 m4
    have hC7 : Ex w1 w7 := hC6.up_new m2 (fun i h => (own_base k1 h.symm).1)
    rw [hDrl] at m1
    (repeat (refine lw_nil ?_))
    refine qw_rw (by repeat with_reducible (first | refine nop_then ?_ | refine nop_block ?_ | exact nop_body)) hcl (fun _ => hC7) ?_
    (refine rw_takeP 12 rfl rfl (by kernel_rfl) (by kernel_rfl) (by kernel_rfl) (by kernel_rfl) rfl (yo_pure hT rfl) ?_)
    refine rw_done (by kernel_rfl) ?_
    (repeat (first | refine qw_then ?_ | refine cw_ret ?_))
    exact qw_ret rfl ⟨fin u3 w7 m1, hx1.trans hC7⟩
def insL (l : List ByteArray) (s : ByteArray) : List ByteArray := if (l.any fun y => decide (y = s)) = true then l else putL l s
theorem any_mem {l : List ByteArray} {s : ByteArray} : (l.any fun y => decide (y = s)) = true ↔ s ∈ l := by
  rw [List.any_eq_true]
  exact ⟨fun ⟨y, hy, e⟩ => of_decide_eq_true e ▸ hy, fun h => ⟨s, h, decide_eq_true rfl⟩⟩
theorem mem_insL {l : List ByteArray} {s x : ByteArray} : x ∈ insL l s ↔ x = s ∨ x ∈ l := by
  unfold insL
  split
  · rename_i h
    rw [any_mem] at h
    exact ⟨.inr, fun h' => by rcases h' with rfl | h' <;> assumption⟩
  · rw [(putL_perm l s).mem_iff, List.mem_cons]
theorem insL_rising {l : List ByteArray} {s : ByteArray} (h : Rising l) : Rising (insL l s) := by
  unfold insL
  split
  · exact h
  · rename_i hs; rw [any_mem] at hs; exact putL_rising h hs
theorem insL_len (l : List ByteArray) (s : ByteArray) : (insL l s).length ≤ l.length + 1 := by
  unfold insL
  split
  · omega
  · rw [putL_len]; omega
theorem r24_put {N : Nat} {w : World} {u : Value} {l : List ByteArray} (s : ByteArray) (h : TxtO N w u l) (hN : N ≤ w.heap.size) (hl : l.length ≤ 1000000) :
    Ret Tryz.prog 57 [u, .string s] w fun u' w' => TxtO N w' u' (insL l s) ∧ Ex w w' ∧ (u' = u ∨ ∀ b, u'.ownBlock = some b → w.heap.size ≤ b) := by
  have hs := h.sls
  obtain ⟨h1, g, c, rfl, hc⟩ := h
  by_cases hin : s ∈ l
  · have hany : (l.any fun y => decide (y = s)) = true := any_mem.2 hin
    have e1 : insL l s = l := if_pos hany
    refine ret_of Tryz.func57 Tryz.ntmps57 rfl rfl rfl ?_
    (iterate 1 (refine cw_seq ?_; refine cw_region ?_; refine lw_pure hT rfl ?_; refine lw_nil ?_; refine qw_then ?_))
    (repeat (first | refine lw_pure hT rfl ?_ | refine cw_seq ?_ | refine cw_region ?_))
    refine lw_call hT rfl rfl (r24_in s w hs) ?_
    rintro _ _ ⟨rfl, rfl⟩
    rw [hany]
    (repeat (first | refine lw_pure hT rfl ?_ | refine lw_nil ?_ | refine cw_seq ?_ | refine cw_region ?_ | refine qw_then ?_ | refine cw_ret ?_ | refine qw_then_ret ?_ | (refine cw_cond_t rfl ?_ ?_; focus with_reducible (first | rfl | exact Bool.not_false | exact Bool.not_true))))
    exact qw_ret rfl ⟨by rw [e1]; exact ⟨h1, g, c, rfl, hc⟩, Ext.refl _ _, .inl rfl⟩
  · have e1 : insL l s = putL l s := if_neg fun h => hin (any_mem.1 h)
    rw [e1]
    exact (r24_put0 s hs hc hin hl).mono fun u' w' ⟨h1, h2⟩ => ⟨txt_put hN h1, h2, .inr fun b hb => (own_base h1 hb).1⟩
theorem own_some {w : World} {N e size n : Nat} {v : Value} {xs : List Value} (h : w.ownsRow N e size v n xs) {g o c m : Nat} (hv : v = .slice (some ⟨g, o, none⟩) m c) : N ≤ g ∧ g < w.heap.size := own_base h (by rw [hv]; rfl)
structure ParO (N : Nat) (w : World) (uo ul ud : Value) (lo ll ld : List ByteArray) : Prop where
  out : TxtO N w uo lo
  left : Que N 9 w ul ll
  done : TxtO N w ud ld
  ol : uo.ownBlock ≠ ul.ownBlock
  od : uo.ownBlock ≠ ud.ownBlock
  ld : ul.ownBlock ≠ ud.ownBlock
theorem ParO.ex {N : Nat} {w w' : World} {uo ul ud : Value} {lo ll ld : List ByteArray} (h : ParO N w uo ul ud lo ll ld) (hx : Ex w w') : ParO N w' uo ul ud lo ll ld :=
  ⟨h.out.ex hx, h.left.ext hx fun _ _ f => f, h.done.ex hx, h.ol, h.od, h.ld⟩
theorem TxtO.own {N : Nat} {w : World} {u : Value} {l : List ByteArray} (h : TxtO N w u l) : ∃ g, u.ownBlock = some g ∧ N ≤ g ∧ g < w.heap.size := by
  obtain ⟨h1, g, c, rfl, _⟩ := h
  have := own_some h1 rfl
  exact ⟨g, rfl, this.1, this.2⟩
theorem _root_.Go.SK.Que.own {N e : Nat} {w : World} {v : Value} {l : List ByteArray} (h : Que N e w v l) : ∃ g, v.ownBlock = some g ∧ N ≤ g ∧ g < w.heap.size := by
  obtain ⟨g, o, c, cur, rfl, h1, h2, h3, h4⟩ := h
  exact ⟨g, rfl, h1, (Array.getElem?_eq_some_iff.1 h3).1⟩
theorem _root_.Go.SK.Que.tail {N e : Nat} {w : World} {g o n c : Nat} {x : ByteArray} {l : List ByteArray} (h : Que N e w (.slice (some ⟨g, o, none⟩) n c) (x :: l)) : Que N e w (.slice (some ⟨g, o + 1, none⟩) l.length (c - 1)) l := by
  obtain ⟨g', o', c', cur, h0, h1, h2, h3, h4, h5⟩ := h
  simp only [Value.slice.injEq, Option.some.injEq, Addr.mk.injEq, and_true, List.length_cons] at h0 h2
  obtain ⟨⟨rfl, rfl⟩, rfl, rfl⟩ := h0
  refine ⟨_, _, _, cur, rfl, h1, by omega, h3, by omega, fun j s hj => ?_⟩
  have := h5 (j + 1) s (by simpa using hj)
  rw [show o + 1 + j = o + (j + 1) from by omega]
  exact this
theorem _root_.Go.SK.Que.head {N e : Nat} {w : World} {g o n c : Nat} {x : ByteArray} {l : List ByteArray} (h : Que N e w (.slice (some ⟨g, o, none⟩) n c) (x :: l)) : w.cell? ⟨g, o, none⟩ = some (.string x) := by
  obtain ⟨g', o', c', cur, h0, h1, h2, h3, h4, h5⟩ := h
  simp only [Value.slice.injEq, Option.some.injEq, Addr.mk.injEq, and_true] at h0
  obtain ⟨⟨rfl, rfl⟩, rfl, rfl⟩ := h0
  have := h5 0 x rfl
  unfold World.cell?
  rw [h3]
  simpa using this
structure ParI (r : RegD) (n : ByteArray) (lo ll ld : List ByteArray) : Prop where
  rising : Rising lo
  out : ∀ x ∈ lo, Reach r n x ∧ x ≠ n
  nodup : ld.Nodup
  there : ∀ x ∈ ld, r.at? x ≠ none
  left : ∀ x ∈ ll, x = n ∨ Reach r n x
  done : ∀ x ∈ ld, ∀ y ∈ r.parentsOf x, (y = n ∨ y ∈ lo) ∧ (y ∈ ld ∨ y ∈ ll ∨ r.at? y = none)
  here : n ∈ ld ∨ n ∈ ll ∨ r.at? n = none
  len : ll.length ≤ 64 * ld.length + 1
  lenO : lo.length ≤ 64 * ld.length
theorem ParI.few {r : RegD} {n : ByteArray} {lo ll ld : List ByteArray} (h : ParI r n lo ll ld) : ld.length ≤ r.l.length := by
  have := nodup_len (a := ld) (b := r.l.map fun e => e.bill.number) h.nodup fun x hx => by
    have hne := h.there x hx
    cases hat : r.at? x with
    | none => exact absurd hat hne
    | some e =>
      obtain ⟨h1, i, hi⟩ := at_some hat
      exact List.mem_map.2 ⟨e, List.mem_of_getElem? hi, h1.symm⟩
  simpa using this
theorem ParI.fin {r : RegD} {n : ByteArray} {lo ld : List ByteArray} (h : ParI r n lo [] ld) : ParL r n lo := by
  refine ⟨h.rising, fun x => ⟨h.out x, fun ⟨hr, hne⟩ => ?_⟩⟩
  have key : (x = n ∨ x ∈ lo) ∧ (x ∈ ld ∨ r.at? x = none) := by
    have step : ∀ p, (p ∈ ld ∨ r.at? p = none) → ∀ y ∈ r.parentsOf p, (y = n ∨ y ∈ lo) ∧ (y ∈ ld ∨ r.at? y = none) := by
      intro p hp y hy
      rcases hp with hp | hp
      · obtain ⟨h1, h2⟩ := h.done p hp y hy
        exact ⟨h1, by rcases h2 with h2 | h2 | h2 <;> simp_all⟩
      · unfold RegD.parentsOf at hy; rw [hp] at hy; cases hy
    refine Reach.sub (S := fun x => (x = n ∨ x ∈ lo) ∧ (x ∈ ld ∨ r.at? x = none)) (fun y hy => step n ?_ y hy) (fun p hp y hy => step p hp.2 y hy) hr
    rcases h.here with h | h | h
    · exact .inl h
    · cases h
    · exact .inr h
  rcases key.1 with h | h
  · exact absurd h hne
  · exact h
theorem ParI.skip {r : RegD} {n x : ByteArray} {lo ll ld : List ByteArray} (h : ParI r n lo (x :: ll) ld) (hx : x ∈ ld ∨ r.at? x = none) : ParI r n lo ll ld := by
  refine ⟨h.rising, h.out, h.nodup, h.there, fun y hy => h.left y (List.mem_cons_of_mem _ hy), fun y hy z hz => ?_, ?_, by have := h.len; simp at this; omega, h.lenO⟩
  · obtain ⟨h1, h2⟩ := h.done y hy z hz
    refine ⟨h1, ?_⟩
    rcases h2 with h2 | h2 | h2
    · exact .inl h2
    · rcases List.mem_cons.1 h2 with rfl | h2
      · rcases hx with hx | hx
        · exact .inl hx
        · exact .inr (.inr hx)
      · exact .inr (.inl h2)
    · exact .inr (.inr h2)
  · rcases h.here with h | h | h
    · exact .inl h
    · rcases List.mem_cons.1 h with rfl | h
      · rcases hx with hx | hx
        · exact .inl hx
        · exact .inr (.inr hx)
      · exact .inr (.inl h)
    · exact .inr (.inr h)
def putN (n : ByteArray) (lo ps : List ByteArray) : List ByteArray := ps.foldl (fun lo y => if y = n then lo else insL lo y) lo
theorem putN_snoc (n : ByteArray) (lo ps : List ByteArray) (y : ByteArray) : putN n lo (ps ++ [y]) = if y = n then putN n lo ps else insL (putN n lo ps) y := by unfold putN; rw [List.foldl_append]; rfl
theorem mem_putN {n x : ByteArray} : ∀ {ps lo : List ByteArray}, x ∈ putN n lo ps ↔ x ∈ lo ∨ (x ∈ ps ∧ x ≠ n)
  | [], lo => by simp [putN]
  | y :: ps, lo => by
    show x ∈ putN n (if y = n then lo else insL lo y) ps ↔ _
    rw [mem_putN]
    split
    · rename_i h; subst h
      simp only [List.mem_cons]
      constructor
      · rintro (h | h)
        · exact .inl h
        · exact .inr ⟨.inr h.1, h.2⟩
      · rintro (h | ⟨rfl | h, h2⟩)
        · exact .inl h
        · exact absurd rfl h2
        · exact .inr ⟨h, h2⟩
    · rename_i h
      rw [mem_insL]
      simp only [List.mem_cons]
      constructor
      · rintro ((rfl | h1) | h1)
        · exact .inr ⟨.inl rfl, h⟩
        · exact .inl h1
        · exact .inr ⟨.inr h1.1, h1.2⟩
      · rintro (h1 | ⟨rfl | h1, h2⟩)
        · exact .inl (.inr h1)
        · exact .inl (.inl rfl)
        · exact .inr ⟨h1, h2⟩
theorem putN_rising {n : ByteArray} : ∀ {ps lo : List ByteArray}, Rising lo → Rising (putN n lo ps)
  | [], lo, h => h
  | y :: ps, lo, h => by
    show Rising (putN n (if y = n then lo else insL lo y) ps)
    refine putN_rising ?_
    split
    · exact h
    · exact insL_rising h
theorem putN_len {n : ByteArray} : ∀ {ps lo : List ByteArray}, (putN n lo ps).length ≤ lo.length + ps.length
  | [], lo => by simp [putN]
  | y :: ps, lo => by
    show (putN n (if y = n then lo else insL lo y) ps).length ≤ _
    have h1 := putN_len (n := n) (ps := ps) (lo := if y = n then lo else insL lo y)
    have h2 : (if y = n then lo else insL lo y).length ≤ lo.length + 1 := by
      split
      · omega
      · exact insL_len _ _
    simp only [List.length_cons]
    omega
theorem ParI.step {r : RegD} {n x : ByteArray} {lo ll ld : List ByteArray} (h : ParI r n lo (x :: ll) ld) (hx : x ∉ ld) (hat : r.at? x ≠ none) (h64 : (r.parentsOf x).length ≤ 64) : ParI r n (putN n lo (r.parentsOf x)) (ll ++ r.parentsOf x) (ld ++ [x]) := by
  have hr : ∀ y ∈ r.parentsOf x, Reach r n y := by
    intro y hy
    rcases h.left x List.mem_cons_self with rfl | hx
    · exact .of hy
    · exact .next hx hy
  have move : ∀ y, (y ∈ ld ∨ y ∈ x :: ll ∨ r.at? y = none) → (y ∈ ld ++ [x] ∨ y ∈ ll ++ r.parentsOf x ∨ r.at? y = none) := by
    rintro y (h | h | h)
    · exact .inl (List.mem_append_left _ h)
    · rcases List.mem_cons.1 h with rfl | h
      · exact .inl (by simp)
      · exact .inr (.inl (List.mem_append_left _ h))
    · exact .inr (.inr h)
  refine ⟨putN_rising h.rising, fun y hy => ?_, ?_, fun y hy => ?_, fun y hy => ?_, fun y hy z hz => ?_, move n h.here, ?_, ?_⟩
  · rcases mem_putN.1 hy with hy | ⟨hy, hne⟩
    · exact h.out y hy
    · exact ⟨hr y hy, hne⟩
  · exact ((List.perm_append_comm).nodup_iff).2 (List.nodup_cons.2 ⟨hx, h.nodup⟩)
  · rcases List.mem_append.1 hy with hy | hy
    · exact h.there y hy
    · rw [List.mem_singleton.1 hy]; exact hat
  · rcases List.mem_append.1 hy with hy | hy
    · exact h.left y (List.mem_cons_of_mem _ hy)
    · exact .inr (hr y hy)
  · rcases List.mem_append.1 hy with hy | hy
    · obtain ⟨h1, h2⟩ := h.done y hy z hz
      refine ⟨?_, move z h2⟩
      rcases h1 with h1 | h1
      · exact .inl h1
      · exact .inr (mem_putN.2 (.inl h1))
    · rw [List.mem_singleton.1 hy] at hz
      refine ⟨?_, .inr (.inl (List.mem_append_right _ hz))⟩
      by_cases e : z = n
      · exact .inl e
      · exact .inr (mem_putN.2 (.inr ⟨hz, e⟩))
  · have := h.len
    simp only [List.length_append, List.length_cons, List.length_nil] at this ⊢
    omega
  · have := h.lenO
    have := putN_len (n := n) (ps := r.parentsOf x) (lo := lo)
    simp only [List.length_append, List.length_cons, List.length_nil] at this ⊢
    omega
theorem TxtO.mono {N M : Nat} {w : World} {u : Value} {l : List ByteArray} (h : TxtO N w u l) (hM : M ≤ N) : TxtO M w u l := ⟨own_mono h.1 hM, h.2⟩
theorem txt_own {N n : Nat} {w : World} {u : Value} {l : List ByteArray} (h : w.ownsRow N 9 1 u n (l.map Value.string)) (hn : n = l.length) (h0 : 0 < n) : TxtO N w u l := by
  subst hn
  obtain ⟨g, c, rfl⟩ := own_slice h h0
  exact ⟨h, g, c, rfl, own_cap h _ _ _ rfl⟩
theorem _root_.Go.SK.Que.tail' {N e : Nat} {w : World} {g o n c : Nat} {x : ByteArray} {l : List ByteArray} (h : Que N e w (.slice (some ⟨g, o, none⟩) n c) (x :: l)) : ∃ o', (if c = 1 then some (⟨g, o, none⟩ : Addr) else (some (⟨g, o, none⟩ : Addr)).map (·.add (1 * 1))) = some ⟨g, o', none⟩ ∧ Que N e w (.slice (some ⟨g, o', none⟩) l.length (c - 1)) l := by
  by_cases hc : c = 1
  · refine ⟨o, by rw [if_pos hc], ?_⟩
    obtain ⟨g', o', c', cur, h0, h1, h2, h3, h4, h5⟩ := h
    simp only [Value.slice.injEq, Option.some.injEq, Addr.mk.injEq, and_true, List.length_cons] at h0 h2
    obtain ⟨⟨rfl, rfl⟩, rfl, rfl⟩ := h0
    have hl : l = [] := List.eq_nil_of_length_eq_zero (by omega)
    subst hl
    exact ⟨_, _, _, cur, rfl, h1, by simp, h3, by omega, fun j s hj => by simp at hj⟩
  · exact ⟨o + 1, by rw [if_neg hc]; rfl, h.tail⟩
theorem ParO.put {N : Nat} {w w' : World} {uo uo' ul ud : Value} {lo lo' ll ld : List ByteArray} (h : ParO N w uo ul ud lo ll ld) (h1 : TxtO N w' uo' lo') (hx : Ex w w') (h2 : uo' = uo ∨ ∀ b, uo'.ownBlock = some b → w.heap.size ≤ b) : ParO N w' uo' ul ud lo' ll ld := by
  rcases h2 with rfl | h2
  · exact ⟨h1, (h.ex hx).left, (h.ex hx).done, h.ol, h.od, h.ld⟩
  · obtain ⟨g1, a1, a2, a3⟩ := h1.own
    obtain ⟨g2, b1, b2, b3⟩ := h.left.own
    obtain ⟨g3, c1, c2, c3⟩ := h.done.own
    have := h2 g1 a1
    refine ⟨h1, (h.ex hx).left, (h.ex hx).done, ?_, ?_, h.ld⟩
    · rw [a1, b1]; intro e; cases e; omega
    · rw [a1, c1]; intro e; cases e; omega
theorem ParO.add {N : Nat} {w w' : World} {uo ul ud ud' : Value} {lo ll ld ld' : List ByteArray} (h : ParO N w uo ul ud lo ll ld) (h1 : TxtO N w' ud' ld') (hx : Ext (fun k => some k = ud.ownBlock) w w') (h2 : ud'.ownBlock = ud.ownBlock ∨ ud'.ownBlock = some w.heap.size) : ParO N w' uo ul ud' lo ll ld' := by
  obtain ⟨g1, a1, a2, a3⟩ := h.out.own
  obtain ⟨g2, b1, b2, b3⟩ := h.left.own
  obtain ⟨g3, c1, c2, c3⟩ := h.done.own
  refine ⟨⟨own_ext h.out.1 hx fun b hb e => h.od (by rw [hb, e]), h.out.2⟩, h.left.ext hx fun b hb e => h.ld (by rw [hb, e]), h1, h.ol, ?_, ?_⟩
  · rcases h2 with h2 | h2
    · rw [h2]; exact h.od
    · rw [h2, a1]; intro e; cases e; omega
  · rcases h2 with h2 | h2
    · rw [h2]; exact h.ld
    · rw [h2, b1]; intro e; cases e; omega
theorem ParO.push {N : Nat} {w w' : World} {uo ul ul' ud : Value} {lo ll ll' ld : List ByteArray} (h : ParO N w uo ul ud lo ll ld) (h1 : Que N 9 w' ul' ll') (hx : Ext (fun k => some k = ul.ownBlock) w w') (h2 : ul'.ownBlock = ul.ownBlock ∨ ul'.ownBlock = some w.heap.size) : ParO N w' uo ul' ud lo ll' ld := by
  obtain ⟨g1, a1, a2, a3⟩ := h.out.own
  obtain ⟨g3, c1, c2, c3⟩ := h.done.own
  refine ⟨⟨own_ext h.out.1 hx fun b hb e => h.ol (by rw [hb, e]), h.out.2⟩, h1, ⟨own_ext h.done.1 hx fun b hb e => h.ld (by rw [hb, e]), h.done.2⟩, ?_, h.od, ?_⟩
  · rcases h2 with h2 | h2
    · rw [h2]; exact h.ol
    · rw [h2, a1]; intro e; cases e; omega
  · rcases h2 with h2 | h2
    · rw [h2]; exact h.ld
    · rw [h2, c1]; intro e; cases e; omega
theorem fidx_atR (r : RegD) (n : ByteArray) : (fidx (fun e => decide (e.bill.number = n)) r.l = -1 ∧ r.at? n = none) ∨ ∃ (i : Nat) (hi : i < r.l.length), fidx (fun e => decide (e.bill.number = n)) r.l = i ∧ r.at? n = some r.l[i] := fidx_cases r.l n
set_option maxHeartbeats 8000000 in
theorem r24_Parents {A : Nat → Prop} {w : World} {vL : Value} {k : Nat} {r : RegD} {gs : List FG} (hF : FRep A w vL r.l gs) (hG : Good k r) (hl : r.l.length ≤ 1000) (n : ByteArray) :
    Ret Tryz.prog 25 [.agg ⟨encR r.carrier vL⟩, .string n] w fun u w' => (∃ L, ParL r n L ∧ TxtO w.heap.size w' u L) ∧ Ex w w' := by
  obtain ⟨aL, cL, rfl, _⟩ := hF.slice
  refine ret_of Tryz.func25 Tryz.ntmps25 rfl rfl rfl ?_
  (repeat (first | refine cw_seq ?_ | refine cw_region ?_))
  refine lw_box rfl ?_
  intro b2 w1 hbb2 hb2 hx1 hs1
  replace hb2 : Blk w1 b2 (encR r.carrier (.slice aL r.l.length cL)) 28 := hb2
  (repeat (first | refine lw_pure hT rfl ?_ | refine lw_nil ?_ | refine cw_seq ?_ | refine cw_region ?_ | refine qw_then ?_))
  refine lw_buildSlice sl31 rfl rfl rfl ?_
  intro b12 w2 hbb12 hb12 hx2 hs2
  (repeat (first | refine lw_pure hT rfl ?_ | refine lw_nil ?_ | refine cw_seq ?_ | refine cw_region ?_ | refine qw_then ?_))
  refine lw_buildSlice sl31 rfl rfl rfl ?_
  intro b14 w3 hbb14 hb14 hx3 hs3
  replace hb14 : Blk w3 b14 [.string n] 9 := hb14
  (repeat (first | refine lw_pure hT rfl ?_ | refine lw_nil ?_ | refine cw_seq ?_ | refine cw_region ?_ | refine qw_then ?_))
  refine lw_buildSlice sl31 rfl rfl rfl ?_
  intro b15 w4 hbb15 hb15 hx4 hs4
  have hx14 := (hx2.trans hx3).trans hx4
  have hO0 : ParO w1.heap.size w4 (.slice (some ⟨b12, 0, none⟩) 0 0) (.slice (some ⟨b14, 0, none⟩) 1 1) (.slice (some ⟨b15, 0, none⟩) 0 0) [] [n] [] := by
    refine ⟨⟨own_lit ((hb12.ex hx3).ex hx4) (by omega) rfl (by decide), b12, 0, rfl, Nat.le_refl _⟩, Que.of_own (own_lit (hb14.ex hx4) (by omega) rfl (by decide)) (by simp), ⟨own_lit hb15 (by omega) rfl (by decide), b15, 0, rfl, Nat.le_refl _⟩, ?_, ?_, ?_⟩ <;> (simp only [Value.ownBlock]; intro e; cases e; omega)
  have hI0 : ParI r n [] [n] [] := by
    refine ⟨List.Pairwise.nil, fun x hx => (by cases hx), List.nodup_nil, fun x hx => (by cases hx), fun x hx => .inl (List.mem_singleton.1 hx), fun x hx => (by cases hx), .inr (.inl (by simp)), by simp, by simp⟩
  (repeat (first | refine lw_pure hT rfl ?_ | refine lw_nil ?_ | refine cw_seq ?_ | refine qw_then ?_ | refine cw_block ?_))
  refine cw_loop (fun z : (Value × Value × Value) × (List ByteArray × List ByteArray × List ByteArray) => [(1, .string n), (2, .pointer (some ⟨b2, 0, none⟩)), (5, z.1.1), (6, z.1.2.1), (7, z.1.2.2)])
    (fun z w' => Ex w1 w' ∧ ParO w1.heap.size w' z.1.1 z.1.2.1 z.1.2.2 z.2.1 z.2.2.1 z.2.2.2 ∧ ParI r n z.2.1 z.2.2.1 z.2.2.2) (fun z => (r.l.length - z.2.2.2.length) * 100 + z.2.2.1.length)
    ((.slice (some ⟨b12, 0, none⟩) 0 0, .slice (some ⟨b14, 0, none⟩) 1 1, .slice (some ⟨b15, 0, none⟩) 0 0), [], [n], []) (by repeat (first | exact trivial | refine ⟨rfl, ?_⟩)) ⟨hx14, hO0, hI0⟩ ?_
  rintro ⟨⟨uo, ul, ud⟩, lo, ll, ld⟩ w5 ⟨hx15, hO, hI⟩
  dsimp only at hO hI ⊢
  have hQ := hO.left
  obtain ⟨g, o, c, cur, rfl, q1, q2, q3, q4, q5⟩ := hO.left
  have hx05 := hx1.trans hx15
  have hb25 := hb2.ex hx15
  have hF5 := hF.ex hx05
  have l15 := hx15.size
  cases ll with
  | nil =>
    (repeat (first | refine lw_pure hT rfl ?_ | refine lw_nil ?_ | refine cw_seq ?_ | refine cw_region ?_ | refine qw_then ?_))
    refine cw_cond rfl (fun e => by simp at e) (fun _ => ?_)
    (repeat (first | refine lw_pure hT rfl ?_ | refine lw_nil ?_ | refine cw_seq ?_ | refine cw_region ?_ | refine qw_then ?_ | refine cw_ret ?_ | refine cw_exit ?_ | refine qw_block_exit ?_ | refine qw_then_exit ?_))
    exact qw_ret rfl ⟨⟨lo, hI.fin, hO.out.mono (by omega)⟩, hx05⟩
  | cons x ll =>
    simp only [List.length_cons] at q2
    obtain ⟨o', hv, hQ'⟩ := hQ.tail'
    have hO' : ParO w1.heap.size w5 uo (.slice (some ⟨g, o', none⟩) ll.length (c - 1)) ud lo ll ld := ⟨hO.out, hQ', hO.done, hO.ol, hO.od, hO.ld⟩
    have hdn := hO.done
    obtain ⟨hd1, gd, cd, rfl, hd2⟩ := hO.done
    (repeat (first | refine lw_pure hT rfl ?_ | refine lw_nil ?_ | refine cw_seq ?_ | refine cw_region ?_ | refine qw_then ?_))
    refine cw_cond rfl (fun _ => ?_) (fun e => by have := of_decide_eq_false e; simp at this)
    (repeat (first | refine lw_pure hT rfl ?_ | refine cw_seq ?_ | refine cw_region ?_ | refine qw_then ?_ | refine cw_skip ?_ | refine cw_block ?_))
    refine lw_index hT rfl rfl rfl 0 rfl (by simp) ?_
    skip
    refine lw_load hT rfl rfl (v := .string x) (by simpa using hQ.head) ?_
    (repeat (first | refine lw_pure hT rfl ?_ | refine lw_nil ?_ | refine cw_seq ?_ | refine cw_region ?_ | refine qw_then ?_))
    refine lw_slice_sl hT rfl rfl rfl rfl 1 (ll.length + 1) rfl rfl (by omega) (by omega) ?_
    rw [hv, Nat.add_sub_cancel]
    (repeat (first | refine lw_pure hT rfl ?_ | refine lw_nil ?_ | refine cw_seq ?_ | refine cw_region ?_ | refine qw_then ?_))
    refine lw_load_agg hT rfl rfl rfl (vs := encR r.carrier (.slice aL r.l.length cL)) (hb25.rd 0 2) ?_
    (repeat (refine lw_pure hT rfl ?_))
    refine lw_call hT rfl rfl (r23_Find r.carrier x hF5) ?_
    rintro _ w6 ⟨rfl, hx6⟩
    have hx16 := hx15.trans hx6
    (repeat (first | refine lw_pure hT rfl ?_ | refine lw_nil ?_ | refine cw_seq ?_ | refine cw_region ?_ | refine qw_then ?_))
    refine lw_call hT rfl rfl (r24_in x w6 (hdn.ex hx6).sls) ?_
    rintro _ _ ⟨rfl, rfl⟩
    have hmu : (r.l.length - ld.length) * 100 + ll.length < (r.l.length - ld.length) * 100 + (x :: ll).length := by simp
    (repeat (refine lw_pure hT rfl ?_))
    refine lw_guard rfl (fun e1 => ?_) (fun e1 => ?_)
    · have hxd := any_mem.1 e1
      (repeat (first | refine lw_pure hT rfl ?_ | refine lw_nil ?_ | refine qw_then ?_ | (refine lw_goff_t rfl ?_ ?_; focus with_reducible (first | rfl | exact Bool.not_false | exact Bool.not_true)) | refine cw_exit ?_ | refine qw_block_exit ?_ | refine qw_then_exit ?_ | (refine cw_cond_t rfl ?_ ?_; focus with_reducible (first | rfl | exact Bool.not_false | exact Bool.not_true))))
      refine qw_round (x := ((uo, .slice (some ⟨g, o, none⟩) (x :: ll).length c, .slice (some ⟨gd, 0, none⟩) ld.length cd), lo, x :: ll, ld)) ((uo, .slice (some ⟨g, o', none⟩) ll.length (c - 1), .slice (some ⟨gd, 0, none⟩) ld.length cd), lo, ll, ld) (by repeat (first | exact trivial | refine ⟨rfl, ?_⟩)) ⟨hx16, hO'.ex hx6, hI.skip (.inl hxd)⟩ hmu
    have hxd : x ∉ ld := fun h => by rw [any_mem.2 h] at e1; cases e1
    rcases fidx_atR r x with ⟨hi, hat⟩ | ⟨i, hil, hi, hat⟩
    · rw [hi]
      (repeat (first | refine lw_pure hT rfl ?_ | refine lw_nil ?_ | refine qw_then ?_ | (refine lw_gon_f rfl ?_ ?_; focus with_reducible (first | rfl | exact Bool.not_false | exact Bool.not_true))))
      refine cw_cond rfl (fun _ => ?_) (fun e => absurd e (by decide))
      (repeat (first | refine cw_exit ?_ | refine qw_block_exit ?_ | refine qw_then_exit ?_))
      refine qw_round (x := ((uo, .slice (some ⟨g, o, none⟩) (x :: ll).length c, .slice (some ⟨gd, 0, none⟩) ld.length cd), lo, x :: ll, ld)) ((uo, .slice (some ⟨g, o', none⟩) ll.length (c - 1), .slice (some ⟨gd, 0, none⟩) ld.length cd), lo, ll, ld) (by repeat (first | exact trivial | refine ⟨rfl, ?_⟩)) ⟨hx16, hO'.ex hx6, hI.skip (.inr hat)⟩ hmu
    rw [hi]
    (repeat (first | refine lw_pure hT rfl ?_ | refine lw_nil ?_ | refine qw_then ?_ | (refine lw_gon_f rfl ?_ ?_; focus with_reducible (first | rfl | exact Bool.not_false | exact Bool.not_true))))
    refine cw_cond rfl (fun e => by have := of_decide_eq_true e; omega) (fun _ => ?_)
    obtain ⟨y, gh, bL, oL, cap, hyl, hgl, heq, hrd, hE⟩ := hF.row hil
    simp only [Value.slice.injEq] at heq
    obtain ⟨rfl, _, rfl⟩ := heq
    have hy : r.l[i] = y := by rw [List.getElem?_eq_getElem hil] at hyl; exact Option.some.inj hyl
    rw [hy] at hat
    have hps : r.parentsOf x = y.bill.parents := parentsOf_some hat
    have h64 := (parents_len hG x).1
    have hstep := hI.step hxd (by rw [hat]; exact fun e => by cases e) h64
    rw [hps] at hstep h64
    have hfew := hI.few
    have hlen := hI.len
    have hlenO := hI.lenO
    have hfew' := hstep.few
    simp only [List.length_append, List.length_cons, List.length_nil] at hfew' hlen
    have hO6 := hO'.ex hx6
    (repeat (first | refine lw_pure hT rfl ?_ | refine cw_seq ?_ | refine cw_region ?_ | refine qw_then ?_ | refine cw_skip ?_))
    refine lw_buildSlice sl31 rfl rfl rfl ?_
    intro b36 w7 hbb36 hb36 hx7 hs7
    replace hb36 : Blk w7 b36 [.string x] 9 := hb36
    have hx17 := hx16.trans hx7
    have hO7 := hO6.ex hx7
    skip
    refine lw_append sl31 (by decide) rfl hO7.done.1 rfl (hb36.rd 0 1) rfl (by intro u hu; simp at hu; subst hu; rfl) (by unfold maxLen; omega) (by omega) (by have := hx17.size; omega) ?_
    intro ud' w8 k1 k2 k3 k4
    have hO8 : ParO w1.heap.size w8 uo (.slice (some ⟨g, o', none⟩) ll.length (c - 1)) ud' lo ll (ld ++ [x]) := hO7.add (txt_own (by rw [List.map_append]; exact k1) (by simp) (by omega)) k2 k4
    have hx18 : Ex w1 w8 := hx17.up_new k2 (fun b hb => (own_base hO7.done.1 hb.symm).1)
    obtain ⟨gd', cd', hud'⟩ : ∃ gd' cd', ud' = .slice (some ⟨gd', 0, none⟩) (ld.length + 1) cd' := own_slice k1 (by omega)
    subst hud'
    have hb28 := hb2.ex hx18
    have hx08 := hx1.trans hx18
    have hpS := hE.parents
    obtain ⟨ap, cp, hgp, _, hprow⟩ := hE.parents.is
    simp only [List.length_map] at hgp
    (repeat (first | refine lw_pure hT rfl ?_ | refine lw_nil ?_ | refine cw_seq ?_ | refine cw_region ?_ | refine qw_then ?_))
    refine lw_load hT rfl rfl (v := .slice (some ⟨bL, oL, none⟩) r.l.length cL) (hb28.cell 1) ?_
    (repeat (refine lw_pure hT rfl ?_))
    refine lw_index hT rfl rfl rfl i rfl hil ?_
    (repeat (refine lw_pure hT rfl ?_))
    refine lw_load hT rfl rfl (v := gh.vp) ((hrd.ex hx08) 6 _ rfl) ?_
    rw [hgp] at hpS ⊢
    obtain ⟨ps, hpse⟩ : ∃ ps, ps = y.bill.parents := ⟨_, rfl⟩
    rw [← hpse] at hpS hprow hps h64 hstep ⊢
    (repeat (first | refine lw_pure hT rfl ?_ | refine lw_nil ?_ | refine cw_seq ?_ | refine cw_region ?_ | refine qw_then ?_ | refine cw_block ?_))
    refine cw_loop (fun z : Nat × Value => [(1, .string n), (2, .pointer (some ⟨b2, 0, none⟩)), (5, z.2), (6, .slice (some ⟨g, o', none⟩) ll.length (c - 1)), (7, .slice (some ⟨gd', 0, none⟩) (ld.length + 1) cd'), (10, .slice ap ps.length cp), (11, .int .i64 (z.1 : Nat))])
      (fun z w' => z.1 ≤ ps.length ∧ Ex w1 w' ∧ ParO w1.heap.size w' z.2 (.slice (some ⟨g, o', none⟩) ll.length (c - 1)) (.slice (some ⟨gd', 0, none⟩) (ld.length + 1) cd') (putN n lo (ps.take z.1)) ll (ld ++ [x])) (fun z => ps.length - z.1) (0, uo) (by repeat (first | exact trivial | refine ⟨rfl, ?_⟩)) ⟨Nat.zero_le _, hx18, hO8⟩ ?_
    rintro ⟨j, uj⟩ w9 ⟨hj, hx19, hO9⟩
    dsimp only at hj hO9 ⊢
    have hx09 := hx1.trans hx19
    (repeat (first | refine lw_pure hT rfl ?_ | refine lw_nil ?_ | refine cw_seq ?_ | refine cw_region ?_ | refine qw_then ?_))
    refine cw_cond rfl (fun e => ?_) (fun e => ?_)
    · have hlt : j < ps.length := by have := of_decide_eq_true e; omega
      have hne : ps.map (fun s => [Value.string s]) ≠ [] := by intro e; simp at e; rw [e] at hlt; simp at hlt
      obtain ⟨bp, op, rfl, _, hrp⟩ := hprow hne
      have hrj := ((hrp j [.string ps[j]] (by rw [List.getElem?_map, List.getElem?_eq_getElem hlt]; rfl)).2).ex hx09
      have htake : ps.take (j + 1) = ps.take j ++ [ps[j]] := List.take_succ_eq_append_getElem hlt
      have hpl := putN_len (n := n) (ps := ps.take j) (lo := lo)
      rw [List.length_take] at hpl
      generalize ps[j] = s at hrj htake
      (repeat (first | refine lw_pure hT rfl ?_ | refine cw_seq ?_ | refine cw_region ?_ | refine qw_then ?_ | refine cw_skip ?_ | refine cw_block ?_))
      refine lw_index hT rfl rfl rfl j rfl hlt ?_
      skip
      refine lw_load hT rfl rfl (v := .string s) (hrj 0 _ rfl) ?_
      (repeat (first | refine lw_pure hT rfl ?_ | refine lw_nil ?_ | refine qw_then ?_))
      refine cw_cond rfl (fun e2 => ?_) (fun e2 => ?_)
      · have hsn : s ≠ n := by simpa using e2
        (repeat (first | refine lw_pure hT rfl ?_ | refine cw_region ?_))
        refine lw_index hT rfl rfl rfl j rfl hlt ?_
        skip
        refine lw_load hT rfl rfl (v := .string s) (hrj 0 _ rfl) ?_
        skip
        refine lw_call hT rfl rfl (r24_put s hO9.out (hx19.size) (by omega)) ?_
        rintro uj' w10 ⟨h1, h2, h3⟩
        (repeat (first | (refine lw_add rfl rfl ?_ ?_ ?_; iterate 2 omega) | refine lw_pure hT rfl ?_ | refine lw_nil ?_ | refine cw_region ?_ | refine qw_then ?_ | refine qw_block ?_))
        refine qw_round (x := (j, uj)) (j + 1, uj') (by repeat (first | exact trivial | refine ⟨rfl, ?_⟩)) ⟨hlt, hx19.trans h2, ?_⟩ (by show ps.length - (j + 1) < ps.length - j; omega)
        rw [htake, putN_snoc, if_neg hsn]
        exact hO9.put h1 h2 h3
      · have hsn : s = n := by simpa using e2
        (repeat (first | (refine lw_add rfl rfl ?_ ?_ ?_; iterate 2 omega) | refine lw_pure hT rfl ?_ | refine lw_nil ?_ | refine cw_region ?_ | refine qw_then ?_ | refine cw_skip ?_ | refine qw_block ?_))
        refine qw_round (x := (j, uj)) (j + 1, uj) (by repeat (first | exact trivial | refine ⟨rfl, ?_⟩)) ⟨hlt, hx19, ?_⟩ (by show ps.length - (j + 1) < ps.length - j; omega)
        rw [htake, putN_snoc, if_pos hsn]
        exact hO9
    · have hjl : j = ps.length := by have := of_decide_eq_false e; omega
      subst hjl
      rw [List.take_length] at hO9
      (repeat (first | refine lw_pure hT rfl ?_ | refine cw_region ?_ | refine qw_then ?_ | refine cw_exit ?_ | refine qw_block_exit ?_ | refine qw_then_exit ?_))
      refine lw_append_que sl31 rfl hO9.left rfl (hpS.ex hx09) (by omega) (by decide) hx19.size ?_
      intro ul' w10 m1 m2 m3
      (repeat (first | refine lw_pure hT rfl ?_ | refine lw_nil ?_ | refine qw_block ?_))
      refine qw_round (x := ((uo, .slice (some ⟨g, o, none⟩) (x :: ll).length c, .slice (some ⟨gd, 0, none⟩) ld.length cd), lo, x :: ll, ld)) ((uj, ul', .slice (some ⟨gd', 0, none⟩) (ld.length + 1) cd'), putN n lo ps, ll ++ ps, ld ++ [x]) (by repeat (first | exact trivial | refine ⟨rfl, ?_⟩)) ⟨hx19.up_new m2 (fun b hb => (hO9.left.lt b hb.symm).1), hO9.push m1 m2 m3, hstep⟩ ?_
      show (r.l.length - (ld ++ [x]).length) * 100 + (ll ++ ps).length < (r.l.length - ld.length) * 100 + (x :: ll).length
      simp only [List.length_append, List.length_cons, List.length_nil]
      omega
theorem boxed_fidx (r : RegD) (s : ByteArray) : (fidx (fun e => e.hasF s) r.l = -1 ∧ r.boxed s = false) ∨ ∃ i : Nat, fidx (fun e => e.hasF s) r.l = i ∧ r.boxed s = true := by
  unfold RegD.boxed fidx
  cases h : r.l.findIdx? (fun e => e.hasF s) with
  | none =>
    refine .inl ⟨rfl, ?_⟩
    rw [List.any_eq_false]
    intro e he
    have := List.findIdx?_eq_none_iff.1 h e he
    rw [← hasF_eq]; simpa using this
  | some i =>
    refine .inr ⟨i, rfl, ?_⟩
    obtain ⟨hi, h1, _⟩ := List.findIdx?_eq_some_iff_getElem.1 h
    exact List.any_eq_true.2 ⟨_, List.getElem_mem hi, by rw [← hasF_eq]; exact h1⟩
set_option maxHeartbeats 2000000 in
theorem r24_Covers {A B : Nat → Prop} {w : World} {vL v : Value} {r : RegD} {gs : List FG} {l : List ByteArray} (hF : FRep A w vL r.l gs) (hS : SlS B w v l) :
    Ret Tryz.prog 27 [.agg ⟨encR r.carrier vL⟩, v] w fun u w' => u = .bool (l.all r.boxed) ∧ Ex w w' := by
  obtain ⟨aL, cL, rfl, _⟩ := hF.slice
  have hm := hS.small
  obtain ⟨a, cap, rfl, hz, hr⟩ := hS.is
  simp only [List.length_map] at *
  unfold maxLen at hm
  refine ret_of Tryz.func27 Tryz.ntmps27 rfl rfl rfl ?_
  (repeat (first | refine cw_seq ?_ | refine cw_region ?_))
  refine lw_box rfl ?_
  intro b2 w1 hbb2 hb2 hx1 hs1
  replace hb2 : Blk w1 b2 (encR r.carrier (.slice aL r.l.length cL)) 28 := hb2
  (repeat (first | refine lw_pure hT rfl ?_ | refine lw_nil ?_ | refine cw_seq ?_ | refine cw_region ?_ | refine qw_then ?_ | refine cw_block ?_))
  refine cw_loop (fun i : Nat => [(1, .slice a l.length cap), (2, .pointer (some ⟨b2, 0, none⟩)), (5, .int .i64 (i : Nat))]) (fun i w' => Ex w1 w' ∧ i ≤ l.length ∧ ∀ j (hj : j < l.length), j < i → r.boxed l[j] = true) (fun i => l.length - i) 0 (by repeat (first | exact trivial | refine ⟨rfl, ?_⟩)) ⟨Ext.refl _ _, Nat.zero_le _, fun j _ hj => by omega⟩ ?_
  rintro i w2 ⟨hx12, hi, hb⟩
  have hx02 := hx1.trans hx12
  have hb22 := hb2.ex hx12
  (repeat (first | refine lw_pure hT rfl ?_ | refine lw_nil ?_ | refine cw_seq ?_ | refine cw_region ?_ | refine qw_then ?_))
  refine cw_cond rfl (fun h => ?_) (fun h => ?_)
  · have hlt : i < l.length := by have := of_decide_eq_true h; omega
    have hne : l.map (fun s => [Value.string s]) ≠ [] := by intro e; simp at e; subst e; simp at hlt
    obtain ⟨b, o, rfl, hA, hrd⟩ := hr hne
    obtain ⟨hlen, hrd⟩ := hrd i [.string l[i]] (by simp [hlt])
    (repeat (first | refine cw_seq ?_ | refine qw_then ?_ | refine cw_skip ?_ | refine cw_block ?_))
    refine cw_draw hM (fun w' => Ex w2 w') [] rfl rfl (by repeat with_reducible (first | refine nop_then ?_ | refine nop_block ?_ | exact nop_body)) (fun w3 hx3 _ => ⟨hx3, ?_⟩)
    refine rw_take 0 rfl rfl (by kernel_rfl) (by kernel_rfl) (by kernel_rfl) (by kernel_rfl) rfl (yo_load_agg hT rfl rfl rfl (vs := encR r.carrier (.slice aL r.l.length cL)) (fun w' hS => (hb22.ex hS).rd 0 2)) ?_
    (refine rw_takeP 1 rfl rfl (by kernel_rfl) (by kernel_rfl) (by kernel_rfl) (by kernel_rfl) rfl (yo_pure hT rfl) ?_; refine rw_takeP 2 rfl rfl (by kernel_rfl) (by kernel_rfl) (by kernel_rfl) (by kernel_rfl) rfl (yo_pure hT rfl) ?_)
    refine rw_takeP 3 rfl rfl (by kernel_rfl) (by kernel_rfl) (by kernel_rfl) (by kernel_rfl) rfl (yo_index hT rfl rfl rfl i rfl hlt) ?_
    refine rw_take 4 rfl rfl (by kernel_rfl) (by kernel_rfl) (by kernel_rfl) (by kernel_rfl) rfl (yo_load hT rfl rfl (v := .string l[i]) (fun w' hS => (hrd.ex (hx02.trans hS)) 0 _ rfl)) ?_
    refine rw_one 5 rfl (by kernel_rfl) rfl (fun hcl => ?_)
    refine lw_call hT rfl rfl (r23_Box r.carrier l[i] ((hF.ex hx02).ex hx3)) ?_
    rintro _ w4 ⟨rfl, hx4⟩
    have hx24 := hx3.trans hx4
    (repeat (refine lw_nil ?_))
    refine qw_rw (by repeat with_reducible (first | refine nop_then ?_ | refine nop_block ?_ | exact nop_body)) hcl (fun _ => hx24) ?_
    (refine rw_takeP 6 rfl rfl (by kernel_rfl) (by kernel_rfl) (by kernel_rfl) (by kernel_rfl) rfl (yo_pure hT rfl) ?_)
    refine rw_done (by kernel_rfl) ?_
    rcases boxed_fidx r l[i] with ⟨hf, hbx⟩ | ⟨q, hf, hbx⟩
    · rw [hf]
      (repeat (refine qw_then ?_))
      refine cw_cond rfl (fun _ => ?_) (fun e => absurd e (by decide))
      (repeat (first | refine lw_pure hT rfl ?_ | refine lw_nil ?_ | refine cw_seq ?_ | refine cw_region ?_ | refine qw_then ?_ | refine cw_ret ?_ | refine qw_then_ret ?_ | refine qw_block_ret ?_))
      refine qw_ret rfl ⟨?_, hx02.trans hx24⟩
      show Value.bool false = _
      have : l.all r.boxed = false := by rw [List.all_eq_false]; exact ⟨l[i], List.getElem_mem hlt, by rw [hbx]; decide⟩
      rw [this]
    · rw [hf]
      (repeat (refine qw_then ?_))
      refine cw_cond rfl (fun e => by have := of_decide_eq_true e; omega) (fun _ => ?_)
      (repeat (first | (refine lw_add rfl rfl ?_ ?_ ?_; iterate 2 omega) | refine lw_pure hT rfl ?_ | refine lw_nil ?_ | refine cw_region ?_ | refine qw_then ?_ | refine cw_skip ?_ | refine qw_block ?_))
      refine qw_round (i + 1) (by repeat (first | exact trivial | refine ⟨rfl, ?_⟩)) ⟨hx12.trans hx24, hlt, fun j hj hji => ?_⟩ (by omega)
      by_cases e : j = i
      · subst e; exact hbx
      · exact hb j hj (by omega)
  · have : i = l.length := by have := of_decide_eq_false h; omega
    subst this
    (repeat (first | refine lw_pure hT rfl ?_ | refine lw_nil ?_ | refine cw_seq ?_ | refine cw_region ?_ | refine qw_then ?_ | refine cw_ret ?_ | refine cw_exit ?_ | refine qw_block_exit ?_ | refine qw_then_exit ?_))
    refine qw_ret rfl ⟨?_, hx02⟩
    show Value.bool true = _
    have : l.all r.boxed = true := by
      rw [List.all_eq_true]
      intro y hy
      obtain ⟨j, hj, rfl⟩ := List.getElem_of_mem hy
      exact hb j hj hj
    rw [this]
end Go.Proofs.YtnglkhnfmbnfeaaGreat
