/- Contracts of package register, first part: what only reads, or makes memory of its own. -/
import Derived.Test.YtfbjpfgglgffgaaGreatMa
set_option linter.unusedVariables false
set_option linter.unusedSimpArgs false
set_option linter.unusedSectionVars false
set_option linter.unnecessarySimpa false
namespace Go.Proofs.YtfbjpfgglgffgaaGreat
open Go Go.SK

theorem flat_len4 (l : List EndD) : (l.map encE).flatten.length = l.length * 4 := by
  induction l with
  | nil => rfl
  | cons a l ih => simp [ih, encE, Nat.succ_mul]
theorem encE_one {l : List EndD} : ∀ r ∈ l.map encE, ∀ u ∈ r, u.oneCell' = true := by
  intro r hr u hu
  obtain ⟨x, _, rfl⟩ := List.mem_map.1 hr
  simp [encE] at hu
  rcases hu with rfl | rfl | rfl | rfl <;> rfl
theorem clone_end {A : Nat → Prop} {v : Value} {l : List EndD} (w : World) (hS : SlE A w v l) (hb : l.length ≤ 1000000) :
    Ret Tryz.prog 46 [v] w fun u w' => w'.ownsRow w.heap.size 104 4 u l.length (l.map encE).flatten ∧ Ex w w' := by
  have hS' := hS
  obtain ⟨a, cap, rfl, hz, hr⟩ := hS.is
  simp only [List.length_map] at *
  refine ret_of Tryz.func46 Tryz.ntmps46 rfl rfl rfl ?_
  (repeat (first | refine lw_pure hT rfl ?_ | refine lw_nil ?_ | refine cw_seq ?_ | refine cw_region ?_ | refine qw_then ?_))
  cases a with
  | none =>
    have h0 : l = [] := by
      by_cases h : l = []
      · exact h
      · obtain ⟨b, o, ha, _⟩ := hr (by simpa using h); cases ha
    subst h0
    (repeat (first | refine lw_pure hT rfl ?_ | refine lw_nil ?_ | refine cw_seq ?_ | refine cw_region ?_ | refine qw_then ?_ | refine cw_ret ?_ | refine qw_then_ret ?_ | (refine cw_cond_t rfl ?_ ?_; focus (first | with_reducible rfl | with_reducible exact Bool.not_false | with_reducible exact Bool.not_true)) | refine lw_eqs_none hT rfl rfl ?_))
    exact qw_ret rfl ⟨World.ownsRow_nil _ _ _ _, Ext.refl _ _⟩
  | some ad =>
    (repeat (first | refine lw_nil ?_ | refine cw_seq ?_ | refine cw_region ?_ | refine qw_then ?_ | refine cw_skip ?_ | (refine cw_cond_f rfl ?_ ?_; focus (first | with_reducible rfl | with_reducible exact Bool.not_false | with_reducible exact Bool.not_true)) | refine lw_eqs_some hT rfl rfl ?_))
    refine lw_buildSlice sl51 rfl rfl rfl ?_
    rintro b w1 rfl hb1 hx1 hs1
    (repeat (refine lw_pure hT rfl ?_))
    have hown : w1.ownsRow w.heap.size 104 4 (.slice (some ⟨w.heap.size, 0, none⟩) 0 0) 0 [] := own_lit hb1 (Nat.le_refl _) rfl (by decide)
    refine lw_append_sl sl51 (by decide) rfl hown rfl (hS'.ex hx1) encE_one (by simp [maxLen]; omega) (by simp; omega) (by omega) ?_
    intro v' w2 g1 g2 g3 g4
    (repeat (first | refine lw_pure hT rfl ?_ | refine lw_nil ?_ | refine qw_then ?_ | refine cw_ret ?_))
    refine qw_ret rfl ⟨by simpa [oneOr] using g1, ?_⟩
    exact hx1.trans' g2 (fun _ _ f => f.elim) (fun i hi g => by simp [Value.ownBlock] at g; omega)

/-! ### The question whether a bill may be issued -/
theorem reg_day (n : Int) (w : World) : Ret Tryz.prog 67 [.int .i64 n] w fun v w' => v = .bool (dayB n) ∧ w = w' := by
  refine ret_of Tryz.func67 Tryz.ntmps67 rfl rfl rfl ?_
  (repeat (first | refine lw_pure hT rfl ?_ | refine lw_nil ?_ | refine cw_seq ?_ | refine cw_region ?_ | refine qw_then ?_))
  refine lw_guard rfl (fun h => ?_) (fun h => ?_) <;> (repeat (first | refine lw_pure hT rfl ?_ | refine lw_nil ?_ | refine qw_then ?_ | refine cw_ret ?_ | (refine lw_gon_t rfl ?_ ?_; focus (first | with_reducible rfl | with_reducible exact Bool.not_false | with_reducible exact Bool.not_true)) | (refine lw_goff_f rfl ?_ ?_; focus (first | with_reducible rfl | with_reducible exact Bool.not_false | with_reducible exact Bool.not_true)))) <;> refine qw_ret rfl ⟨?_, rfl⟩ <;> simp at h <;> simp [oneOr, dayB, h]
  omega
theorem reg_names1 (s : ByteArray) (w : World) (hs : s.size ≤ maxLen) : Ret Tryz.prog 97 [.string s] w fun v w' => v = .bool (!nameB s) ∧ Ex w w' := by
  refine ret_of Tryz.func97 Tryz.ntmps97 rfl rfl rfl ?_
  (repeat (first | refine lw_pure hT rfl ?_ | refine lw_nil ?_ | refine cw_seq ?_ | refine cw_region ?_ | refine qw_then ?_))
  refine lw_call hT rfl rfl (mark_Name s w hs) ?_
  rintro _ _ ⟨rfl, rfl⟩
  (repeat (first | refine lw_pure hT rfl ?_ | refine lw_nil ?_ | refine qw_then ?_ | refine cw_ret ?_))
  exact qw_ret rfl ⟨rfl, Ext.refl _ _⟩
theorem any_not (p : ByteArray → Bool) (l : List ByteArray) : (!l.any fun s => !p s) = l.all p := by
  induction l with
  | nil => rfl
  | cons a l ih => simp only [List.any_cons, List.all_cons, ← ih]; cases p a <;> simp
theorem reg_names {A : Nat → Prop} {v : Value} {l : List ByteArray} (w : World) (hS : SlS A w v l) (hs : ∀ s ∈ l, s.size ≤ maxLen) : Ret Tryz.prog 65 [v] w fun v w' => v = .bool (l.all nameB) ∧ Ex w w' := by
  refine ret_of Tryz.func65 Tryz.ntmps65 rfl rfl rfl ?_
  (repeat (first | refine lw_pure hT rfl ?_ | refine lw_nil ?_ | refine cw_seq ?_ | refine cw_region ?_ | refine qw_then ?_))
  refine lw_call hT rfl rfl (cnf_str (fun s => [Value.string s]) Value.string (fun _ => rfl) (fun s => !nameB s) (fi := []) (cp := []) w hS rfl fun s hm w' _ => reg_names1 s w' (hs s hm)) ?_
  rintro _ w1 ⟨rfl, hx⟩
  (repeat (first | refine lw_pure hT rfl ?_ | refine lw_nil ?_ | refine qw_then ?_ | refine cw_ret ?_))
  exact qw_ret rfl ⟨by rw [any_not]; rfl, hx⟩
theorem mget_seen (l : List ByteArray) (x : ByteArray) : (mget (l.map fun s => (s, Value.bool true)) x).getD (.bool false) = .bool (l.any fun y => decide (x = y)) := by
  induction l with
  | nil => rfl
  | cons a l ih =>
    unfold mget at ih ⊢
    by_cases h : x = a
    · simp [h]
    · simp only [List.map_cons, List.find?_cons, h, decide_false, List.any_cons, Bool.false_or]; exact ih
theorem mget_seen_none {l : List ByteArray} {x : ByteArray} (h : (l.any fun y => decide (x = y)) = false) : mget (l.map fun s => (s, Value.bool true)) x = none := by
  induction l with
  | nil => rfl
  | cons a l ih =>
    simp only [List.any_cons, Bool.or_eq_false_iff] at h
    have := ih h.2
    unfold mget at this ⊢
    simp only [List.map_cons, List.find?_cons, h.1]
    exact this
/-- So many right ones, none twice. -/
theorem once_snoc (l : List ByteArray) (x : ByteArray) : onceB (l ++ [x]) = (onceB l && !(l.any fun y => decide (x = y))) := by
  induction l with
  | nil => simp [onceB]
  | cons a l ih =>
    simp only [List.cons_append, onceB, ih, List.any_append, List.any_cons, List.any_nil, Bool.or_false]
    have e : decide (a = x) = decide (x = a) := by rw [Bool.eq_iff_iff]; simp [eq_comm]
    rw [e]
    cases (l.any fun y => decide (a = y)) <;> cases decide (x = a) <;> cases onceB l <;> cases (l.any fun y => decide (x = y)) <;> rfl
theorem once_bad {l : List ByteArray} {i : Nat} {x : ByteArray} (h : l[i]? = some x) (hb : rightB x = false ∨ ((l.take i).any fun y => decide (x = y)) = true) : (l.all rightB && onceB l) = false := by
  have e : l = l.take (i + 1) ++ l.drop (i + 1) := by simp
  rcases hb with hb | hb
  · have : l.all rightB = false := by rw [List.all_eq_false]; exact ⟨x, List.mem_of_getElem? h, by simp [hb]⟩
    simp [this]
  · have h1 : onceB (l.take (i + 1)) = false := by rw [List.take_add_one, h]; simp only [Option.toList_some]; rw [once_snoc, hb]; simp
    have key : ∀ (a b : List ByteArray), onceB a = false → onceB (a ++ b) = false := by
      intro a b
      induction a with
      | nil => intro h; cases h
      | cons x a ih =>
        intro h
        simp only [onceB, Bool.and_eq_false_iff] at h
        simp only [List.cons_append, onceB, Bool.and_eq_false_iff, List.any_append]
        rcases h with h | h
        · left; simp only [Bool.not_eq_false'] at h ⊢; simp [h]
        · right; exact ih h
    have := key _ (l.drop (i + 1)) h1
    rw [← e] at this
    simp [this]

set_option maxHeartbeats 400000 in
theorem reg_boxes {A : Nat → Prop} {v : Value} {l : List ByteArray} (w : World) (hS : SlS A w v l) (hs : ∀ s ∈ l, s.size ≤ maxLen) :
    Ret Tryz.prog 66 [v] w fun v w' => v = .bool (l.all rightB && onceB l && (decide (1 ≤ l.length) && decide (l.length ≤ 64))) ∧ Ex w w' := by
  have hm := hS.small
  obtain ⟨a, cap, rfl, hz, hr⟩ := hS.is
  simp only [List.length_map] at *
  unfold maxLen at hm
  refine ret_of Tryz.func66 Tryz.ntmps66 rfl rfl rfl ?_
  (repeat (first | refine lw_pure hT rfl ?_ | refine lw_nil ?_ | refine cw_seq ?_ | refine cw_region ?_ | refine qw_then ?_))
  refine lw_makeMap ?_
  rintro m w1 hmb hM1 hx1 hs1
  (repeat (first | refine lw_pure hT rfl ?_ | refine lw_nil ?_ | refine cw_seq ?_ | refine cw_region ?_ | refine qw_then ?_ | refine cw_block ?_))
  refine cw_loop (fun i : Nat => [(0, .slice a l.length cap), (3, .map (some m)), (7, .slice a l.length cap), (8, .int .i64 (l.length : Nat)), (9, .int .i64 (i : Nat))])
    (fun i w' => Ex w w' ∧ Mp w' m ((l.take i).map fun s => (s, Value.bool true)) ∧ i ≤ l.length ∧ ((l.take i).all rightB && onceB (l.take i)) = true) (fun i => l.length - i) 0 (by repeat (first | exact trivial | refine ⟨rfl, ?_⟩)) ⟨hx1, by simpa using hM1, Nat.zero_le _, by simp [onceB]⟩ ?_
  rintro i w2 ⟨hx2, hM2, hi, ha⟩
  (repeat (first | refine lw_pure hT rfl ?_ | refine lw_nil ?_ | refine cw_seq ?_ | refine cw_region ?_ | refine qw_then ?_))
  refine cw_cond rfl (fun h => ?_) (fun h => ?_)
  · have hlt : i < l.length := by simp at h; omega
    have hg : l[i]? = some l[i] := List.getElem?_eq_getElem hlt
    have hne : l.map (fun s => [Value.string s]) ≠ [] := by intro e; simp at e; subst e; simp at hlt
    obtain ⟨b, o, rfl, hA, hrd⟩ := hr hne
    obtain ⟨hlen, hrd⟩ := hrd i [.string l[i]] (by simp [hlt])
    simp only [Bool.and_eq_true] at ha
    (repeat (first | refine cw_seq ?_ | refine cw_region ?_ | refine qw_then ?_ | refine cw_skip ?_ | refine cw_block ?_))
    refine lw_index hT rfl rfl rfl i rfl hlt ?_
    skip
    refine lw_load hT rfl rfl (v := .string l[i]) (hx2.cell (hrd 0 _ rfl)) ?_
    (repeat (first | refine lw_pure hT rfl ?_ | refine lw_nil ?_ | refine cw_seq ?_ | refine cw_region ?_ | refine qw_then ?_))
    refine lw_call hT rfl rfl (mark_Right l[i] w2 (hs _ (List.getElem_mem hlt))) ?_
    rintro _ w3 ⟨rfl, hx3⟩
    have hM3 := hM2.ex hx3
    (repeat (refine lw_pure hT rfl ?_))
    refine lw_guard rfl (fun h1 => ?_) (fun h1 => ?_)
    · rw [Bool.not_eq_true'] at h1
      (repeat (first | refine lw_pure hT rfl ?_ | refine lw_nil ?_ | refine cw_seq ?_ | refine cw_region ?_ | refine qw_then ?_ | refine cw_ret ?_ | refine qw_then_ret ?_ | (refine lw_goff_t rfl ?_ ?_; focus (first | with_reducible rfl | with_reducible exact Bool.not_false | with_reducible exact Bool.not_true)) | refine qw_block_ret ?_ | (refine cw_cond_t rfl ?_ ?_; focus (first | with_reducible rfl | with_reducible exact Bool.not_false | with_reducible exact Bool.not_true))))
      refine qw_ret rfl ⟨?_, hx2.trans hx3⟩
      rw [once_bad hg (.inl h1)]; rfl
    · rw [Bool.not_eq_false'] at h1
      (repeat (first | refine lw_pure hT rfl ?_ | (refine lw_gon_f rfl ?_ ?_; focus (first | with_reducible rfl | with_reducible exact Bool.not_false | with_reducible exact Bool.not_true))))
      refine lw_lookup mp31 rfl rfl hM3 ?_
      rw [mget_seen]
      (repeat (first | refine lw_pure hT rfl ?_ | refine lw_nil ?_ | refine qw_then ?_))
      refine cw_cond rfl (fun h2 => ?_) (fun h2 => ?_)
      · (repeat (first | refine lw_pure hT rfl ?_ | refine lw_nil ?_ | refine cw_seq ?_ | refine cw_region ?_ | refine qw_then ?_ | refine cw_ret ?_ | refine qw_then_ret ?_ | refine qw_block_ret ?_))
        refine qw_ret rfl ⟨?_, hx2.trans hx3⟩
        rw [once_bad hg (.inr h2)]; rfl
      · (repeat (first | refine lw_pure hT rfl ?_ | refine cw_region ?_ | refine qw_then ?_ | refine cw_skip ?_))
        refine lw_mapUpdate mp31 rfl rfl rfl hM3 (mget_seen_none h2) ?_
        intro w4 hM4 hx4 hs4
        (repeat (first | (refine lw_add rfl rfl ?_ ?_ ?_; iterate 2 omega) | refine lw_pure hT rfl ?_ | refine lw_nil ?_ | refine cw_region ?_ | refine qw_then ?_ | refine qw_block ?_))
        refine qw_round (i + 1) (by repeat (first | exact trivial | refine ⟨rfl, ?_⟩)) ⟨(hx2.trans hx3).up_new hx4 (fun i hi => by subst hi; omega), ?_, hlt, ?_⟩ (by omega)
        · rw [List.take_add_one, hg]
          simp only [Option.toList_some, List.map_append, List.map_cons, List.map_nil]; exact hM4
        · rw [List.take_add_one, hg]
          simp only [Option.toList_some]
          rw [once_snoc, List.all_append, h2, ha.1, ha.2]
          simp [h1]
  · have : i = l.length := by simp at h; omega
    subst this
    rw [List.take_length] at ha
    (repeat (first | refine lw_pure hT rfl ?_ | refine cw_seq ?_ | refine cw_region ?_ | refine qw_then ?_ | refine cw_exit ?_ | refine qw_block_exit ?_ | refine qw_then_exit ?_))
    refine lw_guard rfl (fun h1 => ?_) (fun h1 => ?_)
    · have h1 : 1 ≤ l.length := by simp at h1; omega
      (repeat (first | refine lw_pure hT rfl ?_ | refine lw_nil ?_ | refine qw_then ?_ | refine cw_ret ?_ | (refine lw_gon_t rfl ?_ ?_; focus (first | with_reducible rfl | with_reducible exact Bool.not_false | with_reducible exact Bool.not_true))))
      refine qw_ret rfl ⟨?_, hx2⟩
      rw [ha]
      simp [oneOr, h1]; omega
    · have h1 : ¬ 1 ≤ l.length := by simp at h1; omega
      (repeat (first | refine lw_pure hT rfl ?_ | refine lw_nil ?_ | refine qw_then ?_ | refine cw_ret ?_ | (refine lw_goff_f rfl ?_ ?_; focus (first | with_reducible rfl | with_reducible exact Bool.not_false | with_reducible exact Bool.not_true))))
      exact qw_ret rfl ⟨by simp [oneOr, h1], hx2⟩

theorem sls_of_blk {w : World} {b e cap : Nat} {l : List ByteArray} (h : Blk w b (l.map Value.string) e) (hl : l.length ≤ maxLen) : SlS (fun _ => True) w (.slice (some ⟨b, 0, none⟩) l.length cap) l := by
  have := Sl.of_rd (A := fun _ => True) (w := w) (b := b) (o := 0) (cap := cap) (size := 1) (rows := l.map fun s => [Value.string s]) trivial (by simp) (by
    rw [flat_single]
    have := h.rd 0 (l.map Value.string).length
    rwa [List.drop_zero, List.take_length] at this) (by simpa using hl)
  simpa using this
/-- The texts of a bill are as long as texts may be. -/
structure BillD.Ok (b : BillD) : Prop where
  number : b.number.size ≤ maxLen
  carrier : b.carrier.size ≤ maxLen
  shipper : b.shipper.size ≤ maxLen
  frm : b.frm.size ≤ maxLen
  to_ : b.to_.size ≤ maxLen
  boxes : ∀ x ∈ b.boxes, x.size ≤ maxLen
  parents : ∀ x ∈ b.parents, x.size ≤ maxLen
set_option maxHeartbeats 1000000 in
theorem reg_may {A : Nat → Prop} {p : Nat} {c : ByteArray} {mv : Value} (w : World) (b : BillD) (vb vp : Value) (hp : Blk w p [.string c, mv] 81) (hB : SlS A w vb b.boxes) (hP : SlS A w vp b.parents) (hok : b.Ok) :
    Ret Tryz.prog 39 [.pointer (some ⟨p, 0, none⟩), .agg ⟨encB b vb vp⟩] w fun v w' => v = .bool (mayB c b) ∧ Ex w w' := by
  obtain ⟨ab, cb, rfl, hzb, hrb⟩ := hB.is
  obtain ⟨ap, cp, rfl, hzp, hrp⟩ := hP.is
  simp only [List.length_map] at *
  refine ret_of Tryz.func39 Tryz.ntmps39 rfl rfl rfl ?_
  (repeat (first | refine cw_seq ?_ | refine cw_region ?_))
  refine lw_box rfl ?_
  intro bb w1 hbb hb1 hx1 hs1
  replace hb1 : Blk w1 bb (encB b (.slice ab b.boxes.length cb) (.slice ap b.parents.length cp)) 35 := hb1
  (repeat (first | refine lw_pure hT rfl ?_ | refine lw_nil ?_ | refine cw_seq ?_ | refine qw_then ?_))
  refine cw_draw hM (fun w' => Ex w1 w') [] rfl rfl (by repeat (first | with_reducible refine nop_then ?_ | with_reducible refine nop_block ?_ | with_reducible exact nop_body)) (fun w2 hx2 _ => ⟨hx2, ?_⟩)
  (refine rw_takeP 0 rfl rfl (by kernel_rfl) (by kernel_rfl) (by kernel_rfl) (by kernel_rfl) rfl (yo_pure hT rfl) ?_)
  refine rw_take 1 rfl rfl (by kernel_rfl) (by kernel_rfl) (by kernel_rfl) (by kernel_rfl) rfl (yo_load hT rfl rfl (fun w' hS => hS.cell (hb1.cell 0))) ?_
  (refine rw_takeP 2 rfl rfl (by kernel_rfl) (by kernel_rfl) (by kernel_rfl) (by kernel_rfl) rfl (yo_pure hT rfl) ?_)
  refine rw_take 3 rfl rfl (by kernel_rfl) (by kernel_rfl) (by kernel_rfl) (by kernel_rfl) rfl (yo_load hT rfl rfl (fun w' hS => hS.cell (hb1.cell 2))) ?_
  (refine rw_takeP 4 rfl rfl (by kernel_rfl) (by kernel_rfl) (by kernel_rfl) (by kernel_rfl) rfl (yo_pure hT rfl) ?_)
  refine rw_take 5 rfl rfl (by kernel_rfl) (by kernel_rfl) (by kernel_rfl) (by kernel_rfl) rfl (yo_load hT rfl rfl (fun w' hS => hS.cell (hb1.cell 3))) ?_
  (refine rw_takeP 6 rfl rfl (by kernel_rfl) (by kernel_rfl) (by kernel_rfl) (by kernel_rfl) rfl (yo_pure hT rfl) ?_)
  refine rw_take 7 rfl rfl (by kernel_rfl) (by kernel_rfl) (by kernel_rfl) (by kernel_rfl) rfl (yo_load hT rfl rfl (fun w' hS => hS.cell (hb1.cell 4))) ?_
  refine rw_one 8 rfl (by kernel_rfl) rfl (fun hcl => ?_)
  refine lw_buildSlice sl32 rfl rfl rfl ?_
  intro bn w3 hbn hn3 hx3 hs3
  (repeat (refine lw_nil ?_))
  refine qw_rw (by repeat (first | with_reducible refine nop_then ?_ | with_reducible refine nop_block ?_ | with_reducible exact nop_body)) hcl (fun _ => hx2.trans hx3) ?_
  refine rw_one 9 rfl (by kernel_rfl) rfl (fun hcl => ?_)
  refine lw_call hT rfl rfl (reg_names w3 (l := [b.number, b.shipper, b.frm, b.to_]) (sls_of_blk (l := [b.number, b.shipper, b.frm, b.to_]) hn3 (by simp [maxLen])) (by
    intro s hs
    simp only [List.mem_cons, List.not_mem_nil, or_false] at hs
    rcases hs with rfl | rfl | rfl | rfl
    · exact hok.number
    · exact hok.shipper
    · exact hok.frm
    · exact hok.to_)) ?_
  rintro _ w4 ⟨rfl, hx4⟩
  have hx14 : Ex w1 w4 := (hx2.trans hx3).trans hx4
  have hx04 : Ex w w4 := hx1.trans hx14
  (repeat (refine lw_nil ?_))
  refine qw_rw (by repeat (first | with_reducible refine nop_then ?_ | with_reducible refine nop_block ?_ | with_reducible exact nop_body)) hcl (fun _ => hx14) ?_
  have fin : ∀ (r : Bool) w', Ex w1 w' → r = mayB c b → QW (bodyPost Tryz.prog Tryz.f39 fun e w' => ∃ v, e = .returned v ∧ v = .bool (mayB c b) ∧ Ex w w') .ret 45 [(4, .bool r)] w' := fun r w' hx hr => by
    subst hr
    exact qw_ret rfl ⟨rfl, hx1.trans hx⟩
  have e0 : [b.number, b.shipper, b.frm, b.to_].all nameB = (nameB b.number && nameB b.shipper && nameB b.frm && nameB b.to_) := by simp [Bool.and_assoc]
  rw [e0]
  (refine rw_takeP 10 rfl rfl (by kernel_rfl) (by kernel_rfl) (by kernel_rfl) (by kernel_rfl) rfl (yo_pure hT rfl) ?_)
  refine rw_split (d := 15) rfl (fun h1 => ?_) (fun h1 => ?_)
  · (refine rw_takeP 11 rfl rfl (by kernel_rfl) (by kernel_rfl) (by kernel_rfl) (by kernel_rfl) rfl (yo_on rfl rfl (yo_pure hT rfl)) ?_)
    refine rw_take 12 rfl rfl (by kernel_rfl) (by kernel_rfl) (by kernel_rfl) (by kernel_rfl) rfl (yo_on rfl rfl (yo_load hT rfl rfl (fun w' hS => hS.cell (hb1.cell 1)))) ?_
    (refine rw_takeP 13 rfl rfl (by kernel_rfl) (by kernel_rfl) (by kernel_rfl) (by kernel_rfl) rfl (yo_on rfl rfl (yo_pure hT rfl)) ?_; refine rw_takeP 14 rfl rfl (by kernel_rfl) (by kernel_rfl) (by kernel_rfl) (by kernel_rfl) rfl (yo_on rfl rfl (yo_pure hT rfl)) ?_; refine rw_takeP 15 rfl rfl (by kernel_rfl) (by kernel_rfl) (by kernel_rfl) (by kernel_rfl) rfl (yo_on rfl rfl (yo_pure hT rfl)) ?_)
    refine rw_take 16 rfl rfl (by kernel_rfl) (by kernel_rfl) (by kernel_rfl) (by kernel_rfl) rfl (yo_on rfl rfl (yo_load hT rfl rfl (fun w' hS => Ex.cell (hx1.trans hS) (hp.cell 0)))) ?_
    (refine rw_takeP 17 rfl rfl (by kernel_rfl) (by kernel_rfl) (by kernel_rfl) (by kernel_rfl) rfl (yo_on rfl rfl (yo_pure hT rfl)) ?_)
    (refine rw_takeP 18 rfl rfl (by kernel_rfl) (by kernel_rfl) (by kernel_rfl) (by kernel_rfl) rfl (yo_pure hT rfl) ?_; refine rw_takeP 19 rfl rfl (by kernel_rfl) (by kernel_rfl) (by kernel_rfl) (by kernel_rfl) rfl (yo_pure hT rfl) ?_)
    refine rw_split (d := 24) rfl (fun h2 => ?_) (fun h2 => ?_)
    · (refine rw_takeP 20 rfl rfl (by kernel_rfl) (by kernel_rfl) (by kernel_rfl) (by kernel_rfl) rfl (yo_on rfl rfl (yo_pure hT rfl)) ?_)
      refine rw_take 21 rfl rfl (by kernel_rfl) (by kernel_rfl) (by kernel_rfl) (by kernel_rfl) rfl (yo_on rfl rfl (yo_load hT rfl rfl (fun w' hS => hS.cell (hb1.cell 5)))) ?_
      refine rw_one 22 rfl (by kernel_rfl) rfl (fun hcl => ?_)
      (repeat (refine lw_gon_t rfl ?_ ?_; focus (first | with_reducible rfl | with_reducible exact Bool.not_false | with_reducible exact Bool.not_true)))
      refine lw_call hT rfl rfl (reg_boxes w4 (hB.ex hx04) hok.boxes) ?_
      rintro _ w5 ⟨rfl, hx5⟩
      have hx15 := hx14.trans hx5
      (repeat (refine lw_nil ?_))
      refine qw_rw (by repeat (first | with_reducible refine nop_then ?_ | with_reducible refine nop_block ?_ | with_reducible exact nop_body)) hcl (fun _ => hx15) ?_
      (refine rw_takeP 23 rfl rfl (by kernel_rfl) (by kernel_rfl) (by kernel_rfl) (by kernel_rfl) rfl (yo_pure hT rfl) ?_; refine rw_takeP 24 rfl rfl (by kernel_rfl) (by kernel_rfl) (by kernel_rfl) (by kernel_rfl) rfl (yo_pure hT rfl) ?_)
      refine rw_split (d := 29) rfl (fun h3 => ?_) (fun h3 => ?_)
      · (refine rw_takeP 25 rfl rfl (by kernel_rfl) (by kernel_rfl) (by kernel_rfl) (by kernel_rfl) rfl (yo_on rfl rfl (yo_pure hT rfl)) ?_)
        refine rw_take 26 rfl rfl (by kernel_rfl) (by kernel_rfl) (by kernel_rfl) (by kernel_rfl) rfl (yo_on rfl rfl (yo_load hT rfl rfl (fun w' hS => hS.cell (hb1.cell 6)))) ?_
        (refine rw_takeP 27 rfl rfl (by kernel_rfl) (by kernel_rfl) (by kernel_rfl) (by kernel_rfl) rfl (yo_on rfl rfl (yo_pure hT rfl)) ?_; refine rw_takeP 28 rfl rfl (by kernel_rfl) (by kernel_rfl) (by kernel_rfl) (by kernel_rfl) rfl (yo_on rfl rfl (yo_pure hT rfl)) ?_)
        (refine rw_takeP 29 rfl rfl (by kernel_rfl) (by kernel_rfl) (by kernel_rfl) (by kernel_rfl) rfl (yo_pure hT rfl) ?_; refine rw_takeP 30 rfl rfl (by kernel_rfl) (by kernel_rfl) (by kernel_rfl) (by kernel_rfl) rfl (yo_pure hT rfl) ?_)
        refine rw_split (d := 35) rfl (fun h4 => ?_) (fun h4 => ?_)
        · (refine rw_takeP 31 rfl rfl (by kernel_rfl) (by kernel_rfl) (by kernel_rfl) (by kernel_rfl) rfl (yo_on rfl rfl (yo_pure hT rfl)) ?_)
          refine rw_take 32 rfl rfl (by kernel_rfl) (by kernel_rfl) (by kernel_rfl) (by kernel_rfl) rfl (yo_on rfl rfl (yo_load hT rfl rfl (fun w' hS => hS.cell (hb1.cell 6)))) ?_
          refine rw_one 33 rfl (by kernel_rfl) rfl (fun hcl => ?_)
          (repeat (refine lw_gon_t rfl ?_ ?_; focus (first | with_reducible rfl | with_reducible exact Bool.not_false | with_reducible exact Bool.not_true)))
          refine lw_call hT rfl rfl (reg_names w5 (hP.ex (hx1.trans hx15)) hok.parents) ?_
          rintro _ w6 ⟨rfl, hx6⟩
          have hx16 := hx15.trans hx6
          (repeat (refine lw_nil ?_))
          refine qw_rw (by repeat (first | with_reducible refine nop_then ?_ | with_reducible refine nop_block ?_ | with_reducible exact nop_body)) hcl (fun _ => hx16) ?_
          (refine rw_takeP 34 rfl rfl (by kernel_rfl) (by kernel_rfl) (by kernel_rfl) (by kernel_rfl) rfl (yo_pure hT rfl) ?_; refine rw_takeP 35 rfl rfl (by kernel_rfl) (by kernel_rfl) (by kernel_rfl) (by kernel_rfl) rfl (yo_pure hT rfl) ?_)
          refine rw_split (d := 40) rfl (fun h5 => ?_) (fun h5 => ?_)
          · (refine rw_takeP 36 rfl rfl (by kernel_rfl) (by kernel_rfl) (by kernel_rfl) (by kernel_rfl) rfl (yo_on rfl rfl (yo_pure hT rfl)) ?_)
            refine rw_take 37 rfl rfl (by kernel_rfl) (by kernel_rfl) (by kernel_rfl) (by kernel_rfl) rfl (yo_on rfl rfl (yo_load hT rfl rfl (fun w' hS => hS.cell (hb1.cell 7)))) ?_
            refine rw_one 38 rfl (by kernel_rfl) rfl (fun hcl => ?_)
            (repeat (refine lw_gon_t rfl ?_ ?_; focus (first | with_reducible rfl | with_reducible exact Bool.not_false | with_reducible exact Bool.not_true)))
            refine lw_call hT rfl rfl (reg_day _ w6) ?_
            rintro _ _ ⟨rfl, rfl⟩
            (repeat (refine lw_nil ?_))
            refine qw_rw (by repeat (first | with_reducible refine nop_then ?_ | with_reducible refine nop_block ?_ | with_reducible exact nop_body)) hcl (fun _ => hx16) ?_
            (refine rw_takeP 39 rfl rfl (by kernel_rfl) (by kernel_rfl) (by kernel_rfl) (by kernel_rfl) rfl (yo_pure hT rfl) ?_; refine rw_takeP 40 rfl rfl (by kernel_rfl) (by kernel_rfl) (by kernel_rfl) (by kernel_rfl) rfl (yo_pure hT rfl) ?_)
            refine rw_done (by kernel_rfl) ?_
            (repeat (first | refine qw_then ?_ | refine cw_ret ?_))
            refine qw_sub (by repeat (first | exact trivial | refine ⟨rfl, ?_⟩)) (fin _ _ hx16 ?_)
            have h4' : decide (b.parents.length ≤ 64) = true := by simp at h4 ⊢; omega
            simp only [mayB, h1, h2, h3, h4', h5, Bool.true_and]
          · (refine rw_takeP 36 rfl rfl (by kernel_rfl) (by kernel_rfl) (by kernel_rfl) (by kernel_rfl) rfl (yo_off rfl rfl) ?_; refine rw_takeP 37 rfl rfl (by kernel_rfl) (by kernel_rfl) (by kernel_rfl) (by kernel_rfl) rfl (yo_off rfl rfl) ?_; refine rw_takeP 38 rfl rfl (by kernel_rfl) (by kernel_rfl) (by kernel_rfl) (by kernel_rfl) rfl (yo_off rfl rfl) ?_)
            (refine rw_takeP 39 rfl rfl (by kernel_rfl) (by kernel_rfl) (by kernel_rfl) (by kernel_rfl) rfl (yo_pure hT rfl) ?_; refine rw_takeP 40 rfl rfl (by kernel_rfl) (by kernel_rfl) (by kernel_rfl) (by kernel_rfl) rfl (yo_pure hT rfl) ?_)
            refine rw_done (by kernel_rfl) ?_
            (repeat (first | refine qw_then ?_ | refine cw_ret ?_))
            exact qw_sub (by repeat (first | exact trivial | refine ⟨rfl, ?_⟩)) (fin _ _ hx16 (by simp [mayB, h5]))
        · (refine rw_takeP 31 rfl rfl (by kernel_rfl) (by kernel_rfl) (by kernel_rfl) (by kernel_rfl) rfl (yo_off rfl rfl) ?_; refine rw_takeP 32 rfl rfl (by kernel_rfl) (by kernel_rfl) (by kernel_rfl) (by kernel_rfl) rfl (yo_off rfl rfl) ?_; refine rw_takeP 33 rfl rfl (by kernel_rfl) (by kernel_rfl) (by kernel_rfl) (by kernel_rfl) rfl (yo_off rfl rfl) ?_)
          (refine rw_takeP 34 rfl rfl (by kernel_rfl) (by kernel_rfl) (by kernel_rfl) (by kernel_rfl) rfl (yo_pure hT rfl) ?_; refine rw_takeP 35 rfl rfl (by kernel_rfl) (by kernel_rfl) (by kernel_rfl) (by kernel_rfl) rfl (yo_pure hT rfl) ?_)
          (refine rw_takeP 36 rfl rfl (by kernel_rfl) (by kernel_rfl) (by kernel_rfl) (by kernel_rfl) rfl (yo_off rfl rfl) ?_; refine rw_takeP 37 rfl rfl (by kernel_rfl) (by kernel_rfl) (by kernel_rfl) (by kernel_rfl) rfl (yo_off rfl rfl) ?_; refine rw_takeP 38 rfl rfl (by kernel_rfl) (by kernel_rfl) (by kernel_rfl) (by kernel_rfl) rfl (yo_off rfl rfl) ?_)
          (refine rw_takeP 39 rfl rfl (by kernel_rfl) (by kernel_rfl) (by kernel_rfl) (by kernel_rfl) rfl (yo_pure hT rfl) ?_; refine rw_takeP 40 rfl rfl (by kernel_rfl) (by kernel_rfl) (by kernel_rfl) (by kernel_rfl) rfl (yo_pure hT rfl) ?_)
          refine rw_done (by kernel_rfl) ?_
          (repeat (first | refine qw_then ?_ | refine cw_ret ?_))
          have h4' : decide (b.parents.length ≤ 64) = false := by simp at h4 ⊢; omega
          exact qw_sub (by repeat (first | exact trivial | refine ⟨rfl, ?_⟩)) (fin _ _ hx15 (by simp only [mayB, h4']; simp))
      · (refine rw_takeP 25 rfl rfl (by kernel_rfl) (by kernel_rfl) (by kernel_rfl) (by kernel_rfl) rfl (yo_off rfl rfl) ?_; refine rw_takeP 26 rfl rfl (by kernel_rfl) (by kernel_rfl) (by kernel_rfl) (by kernel_rfl) rfl (yo_off rfl rfl) ?_; refine rw_takeP 27 rfl rfl (by kernel_rfl) (by kernel_rfl) (by kernel_rfl) (by kernel_rfl) rfl (yo_off rfl rfl) ?_; refine rw_takeP 28 rfl rfl (by kernel_rfl) (by kernel_rfl) (by kernel_rfl) (by kernel_rfl) rfl (yo_off rfl rfl) ?_)
        (refine rw_takeP 29 rfl rfl (by kernel_rfl) (by kernel_rfl) (by kernel_rfl) (by kernel_rfl) rfl (yo_pure hT rfl) ?_; refine rw_takeP 30 rfl rfl (by kernel_rfl) (by kernel_rfl) (by kernel_rfl) (by kernel_rfl) rfl (yo_pure hT rfl) ?_)
        (refine rw_takeP 31 rfl rfl (by kernel_rfl) (by kernel_rfl) (by kernel_rfl) (by kernel_rfl) rfl (yo_off rfl rfl) ?_; refine rw_takeP 32 rfl rfl (by kernel_rfl) (by kernel_rfl) (by kernel_rfl) (by kernel_rfl) rfl (yo_off rfl rfl) ?_; refine rw_takeP 33 rfl rfl (by kernel_rfl) (by kernel_rfl) (by kernel_rfl) (by kernel_rfl) rfl (yo_off rfl rfl) ?_)
        (refine rw_takeP 34 rfl rfl (by kernel_rfl) (by kernel_rfl) (by kernel_rfl) (by kernel_rfl) rfl (yo_pure hT rfl) ?_; refine rw_takeP 35 rfl rfl (by kernel_rfl) (by kernel_rfl) (by kernel_rfl) (by kernel_rfl) rfl (yo_pure hT rfl) ?_)
        (refine rw_takeP 36 rfl rfl (by kernel_rfl) (by kernel_rfl) (by kernel_rfl) (by kernel_rfl) rfl (yo_off rfl rfl) ?_; refine rw_takeP 37 rfl rfl (by kernel_rfl) (by kernel_rfl) (by kernel_rfl) (by kernel_rfl) rfl (yo_off rfl rfl) ?_; refine rw_takeP 38 rfl rfl (by kernel_rfl) (by kernel_rfl) (by kernel_rfl) (by kernel_rfl) rfl (yo_off rfl rfl) ?_)
        (refine rw_takeP 39 rfl rfl (by kernel_rfl) (by kernel_rfl) (by kernel_rfl) (by kernel_rfl) rfl (yo_pure hT rfl) ?_; refine rw_takeP 40 rfl rfl (by kernel_rfl) (by kernel_rfl) (by kernel_rfl) (by kernel_rfl) rfl (yo_pure hT rfl) ?_)
        refine rw_done (by kernel_rfl) ?_
        (repeat (first | refine qw_then ?_ | refine cw_ret ?_))
        exact qw_sub (by repeat (first | exact trivial | refine ⟨rfl, ?_⟩)) (fin _ _ hx15 (by simp only [mayB, h3]; simp))
    · (refine rw_takeP 20 rfl rfl (by kernel_rfl) (by kernel_rfl) (by kernel_rfl) (by kernel_rfl) rfl (yo_off rfl rfl) ?_; refine rw_takeP 21 rfl rfl (by kernel_rfl) (by kernel_rfl) (by kernel_rfl) (by kernel_rfl) rfl (yo_off rfl rfl) ?_; refine rw_takeP 22 rfl rfl (by kernel_rfl) (by kernel_rfl) (by kernel_rfl) (by kernel_rfl) rfl (yo_off rfl rfl) ?_)
      (refine rw_takeP 23 rfl rfl (by kernel_rfl) (by kernel_rfl) (by kernel_rfl) (by kernel_rfl) rfl (yo_pure hT rfl) ?_; refine rw_takeP 24 rfl rfl (by kernel_rfl) (by kernel_rfl) (by kernel_rfl) (by kernel_rfl) rfl (yo_pure hT rfl) ?_)
      (refine rw_takeP 25 rfl rfl (by kernel_rfl) (by kernel_rfl) (by kernel_rfl) (by kernel_rfl) rfl (yo_off rfl rfl) ?_; refine rw_takeP 26 rfl rfl (by kernel_rfl) (by kernel_rfl) (by kernel_rfl) (by kernel_rfl) rfl (yo_off rfl rfl) ?_; refine rw_takeP 27 rfl rfl (by kernel_rfl) (by kernel_rfl) (by kernel_rfl) (by kernel_rfl) rfl (yo_off rfl rfl) ?_; refine rw_takeP 28 rfl rfl (by kernel_rfl) (by kernel_rfl) (by kernel_rfl) (by kernel_rfl) rfl (yo_off rfl rfl) ?_)
      (refine rw_takeP 29 rfl rfl (by kernel_rfl) (by kernel_rfl) (by kernel_rfl) (by kernel_rfl) rfl (yo_pure hT rfl) ?_; refine rw_takeP 30 rfl rfl (by kernel_rfl) (by kernel_rfl) (by kernel_rfl) (by kernel_rfl) rfl (yo_pure hT rfl) ?_)
      (refine rw_takeP 31 rfl rfl (by kernel_rfl) (by kernel_rfl) (by kernel_rfl) (by kernel_rfl) rfl (yo_off rfl rfl) ?_; refine rw_takeP 32 rfl rfl (by kernel_rfl) (by kernel_rfl) (by kernel_rfl) (by kernel_rfl) rfl (yo_off rfl rfl) ?_; refine rw_takeP 33 rfl rfl (by kernel_rfl) (by kernel_rfl) (by kernel_rfl) (by kernel_rfl) rfl (yo_off rfl rfl) ?_)
      (refine rw_takeP 34 rfl rfl (by kernel_rfl) (by kernel_rfl) (by kernel_rfl) (by kernel_rfl) rfl (yo_pure hT rfl) ?_; refine rw_takeP 35 rfl rfl (by kernel_rfl) (by kernel_rfl) (by kernel_rfl) (by kernel_rfl) rfl (yo_pure hT rfl) ?_)
      (refine rw_takeP 36 rfl rfl (by kernel_rfl) (by kernel_rfl) (by kernel_rfl) (by kernel_rfl) rfl (yo_off rfl rfl) ?_; refine rw_takeP 37 rfl rfl (by kernel_rfl) (by kernel_rfl) (by kernel_rfl) (by kernel_rfl) rfl (yo_off rfl rfl) ?_; refine rw_takeP 38 rfl rfl (by kernel_rfl) (by kernel_rfl) (by kernel_rfl) (by kernel_rfl) rfl (yo_off rfl rfl) ?_)
      (refine rw_takeP 39 rfl rfl (by kernel_rfl) (by kernel_rfl) (by kernel_rfl) (by kernel_rfl) rfl (yo_pure hT rfl) ?_; refine rw_takeP 40 rfl rfl (by kernel_rfl) (by kernel_rfl) (by kernel_rfl) (by kernel_rfl) rfl (yo_pure hT rfl) ?_)
      refine rw_done (by kernel_rfl) ?_
      (repeat (first | refine qw_then ?_ | refine cw_ret ?_))
      exact qw_sub (by repeat (first | exact trivial | refine ⟨rfl, ?_⟩)) (fin _ _ hx14 (by simp only [mayB, h2]; simp))
  · (refine rw_takeP 11 rfl rfl (by kernel_rfl) (by kernel_rfl) (by kernel_rfl) (by kernel_rfl) rfl (yo_off rfl rfl) ?_; refine rw_takeP 12 rfl rfl (by kernel_rfl) (by kernel_rfl) (by kernel_rfl) (by kernel_rfl) rfl (yo_off rfl rfl) ?_; refine rw_takeP 13 rfl rfl (by kernel_rfl) (by kernel_rfl) (by kernel_rfl) (by kernel_rfl) rfl (yo_off rfl rfl) ?_; refine rw_takeP 14 rfl rfl (by kernel_rfl) (by kernel_rfl) (by kernel_rfl) (by kernel_rfl) rfl (yo_off rfl rfl) ?_; refine rw_takeP 15 rfl rfl (by kernel_rfl) (by kernel_rfl) (by kernel_rfl) (by kernel_rfl) rfl (yo_off rfl rfl) ?_; refine rw_takeP 16 rfl rfl (by kernel_rfl) (by kernel_rfl) (by kernel_rfl) (by kernel_rfl) rfl (yo_off rfl rfl) ?_; refine rw_takeP 17 rfl rfl (by kernel_rfl) (by kernel_rfl) (by kernel_rfl) (by kernel_rfl) rfl (yo_off rfl rfl) ?_)
    (refine rw_takeP 18 rfl rfl (by kernel_rfl) (by kernel_rfl) (by kernel_rfl) (by kernel_rfl) rfl (yo_pure hT rfl) ?_; refine rw_takeP 19 rfl rfl (by kernel_rfl) (by kernel_rfl) (by kernel_rfl) (by kernel_rfl) rfl (yo_pure hT rfl) ?_)
    (refine rw_takeP 20 rfl rfl (by kernel_rfl) (by kernel_rfl) (by kernel_rfl) (by kernel_rfl) rfl (yo_off rfl rfl) ?_; refine rw_takeP 21 rfl rfl (by kernel_rfl) (by kernel_rfl) (by kernel_rfl) (by kernel_rfl) rfl (yo_off rfl rfl) ?_; refine rw_takeP 22 rfl rfl (by kernel_rfl) (by kernel_rfl) (by kernel_rfl) (by kernel_rfl) rfl (yo_off rfl rfl) ?_)
    (refine rw_takeP 23 rfl rfl (by kernel_rfl) (by kernel_rfl) (by kernel_rfl) (by kernel_rfl) rfl (yo_pure hT rfl) ?_; refine rw_takeP 24 rfl rfl (by kernel_rfl) (by kernel_rfl) (by kernel_rfl) (by kernel_rfl) rfl (yo_pure hT rfl) ?_)
    (refine rw_takeP 25 rfl rfl (by kernel_rfl) (by kernel_rfl) (by kernel_rfl) (by kernel_rfl) rfl (yo_off rfl rfl) ?_; refine rw_takeP 26 rfl rfl (by kernel_rfl) (by kernel_rfl) (by kernel_rfl) (by kernel_rfl) rfl (yo_off rfl rfl) ?_; refine rw_takeP 27 rfl rfl (by kernel_rfl) (by kernel_rfl) (by kernel_rfl) (by kernel_rfl) rfl (yo_off rfl rfl) ?_; refine rw_takeP 28 rfl rfl (by kernel_rfl) (by kernel_rfl) (by kernel_rfl) (by kernel_rfl) rfl (yo_off rfl rfl) ?_)
    (refine rw_takeP 29 rfl rfl (by kernel_rfl) (by kernel_rfl) (by kernel_rfl) (by kernel_rfl) rfl (yo_pure hT rfl) ?_; refine rw_takeP 30 rfl rfl (by kernel_rfl) (by kernel_rfl) (by kernel_rfl) (by kernel_rfl) rfl (yo_pure hT rfl) ?_)
    (refine rw_takeP 31 rfl rfl (by kernel_rfl) (by kernel_rfl) (by kernel_rfl) (by kernel_rfl) rfl (yo_off rfl rfl) ?_; refine rw_takeP 32 rfl rfl (by kernel_rfl) (by kernel_rfl) (by kernel_rfl) (by kernel_rfl) rfl (yo_off rfl rfl) ?_; refine rw_takeP 33 rfl rfl (by kernel_rfl) (by kernel_rfl) (by kernel_rfl) (by kernel_rfl) rfl (yo_off rfl rfl) ?_)
    (refine rw_takeP 34 rfl rfl (by kernel_rfl) (by kernel_rfl) (by kernel_rfl) (by kernel_rfl) rfl (yo_pure hT rfl) ?_; refine rw_takeP 35 rfl rfl (by kernel_rfl) (by kernel_rfl) (by kernel_rfl) (by kernel_rfl) rfl (yo_pure hT rfl) ?_)
    (refine rw_takeP 36 rfl rfl (by kernel_rfl) (by kernel_rfl) (by kernel_rfl) (by kernel_rfl) rfl (yo_off rfl rfl) ?_; refine rw_takeP 37 rfl rfl (by kernel_rfl) (by kernel_rfl) (by kernel_rfl) (by kernel_rfl) rfl (yo_off rfl rfl) ?_; refine rw_takeP 38 rfl rfl (by kernel_rfl) (by kernel_rfl) (by kernel_rfl) (by kernel_rfl) rfl (yo_off rfl rfl) ?_)
    (refine rw_takeP 39 rfl rfl (by kernel_rfl) (by kernel_rfl) (by kernel_rfl) (by kernel_rfl) rfl (yo_pure hT rfl) ?_; refine rw_takeP 40 rfl rfl (by kernel_rfl) (by kernel_rfl) (by kernel_rfl) (by kernel_rfl) rfl (yo_pure hT rfl) ?_)
    refine rw_done (by kernel_rfl) ?_
    (repeat (first | refine qw_then ?_ | refine cw_ret ?_))
    exact qw_sub (by repeat (first | exact trivial | refine ⟨rfl, ?_⟩)) (fin _ _ hx14 (by simp only [mayB, h1]; simp))
end Go.Proofs.YtfbjpfgglgffgaaGreat
