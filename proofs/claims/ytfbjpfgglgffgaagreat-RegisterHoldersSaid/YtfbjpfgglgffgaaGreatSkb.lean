/- The walking kit, second part: what a world keeps, laws for operations that make or write memory, slices, maps, conversions. No program is named here. -/
import Derived.Test.YtfbjpfgglgffgaaGreatSk
import Derived.Maps.AppendAt
import Derived.MapKept
import Derived.Laws.IdiomRangeMap
set_option linter.unusedVariables false
set_option linter.unusedSimpArgs false
set_option linter.unusedSectionVars false
set_option linter.unnecessarySimpa false
namespace Go.SK
open Go

/-! ### What a step leaves as it was: all blocks outside F. -/
structure Ext (F : Nat → Prop) (w w' : World) : Prop where
  os : w'.os = w.os
  tape : w'.tape = w.tape
  output : w'.output = w.output
  size : w.heap.size ≤ w'.heap.size
  blk : ∀ k, k < w.heap.size → ¬ F k → w'.heap[k]? = w.heap[k]?
def No : Nat → Prop := fun _ => False
abbrev Ex (w w' : World) : Prop := Ext No w w'

theorem Ext.refl (F : Nat → Prop) (w : World) : Ext F w w := ⟨rfl, rfl, rfl, Nat.le_refl _, fun _ _ _ => rfl⟩
theorem Ext.trans' {F G H : Nat → Prop} {a b c : World} (h : Ext F a b) (k : Ext G b c) (hF : ∀ i, i < a.heap.size → F i → H i) (hG : ∀ i, i < a.heap.size → G i → H i) : Ext H a c :=
  ⟨k.os.trans h.os, k.tape.trans h.tape, k.output.trans h.output, Nat.le_trans h.size k.size, fun i hi hn =>
    (k.blk i (Nat.lt_of_lt_of_le hi h.size) (fun g => hn (hG i hi g))).trans (h.blk i hi (fun f => hn (hF i hi f)))⟩
theorem Ext.trans {F : Nat → Prop} {a b c : World} (h : Ext F a b) (k : Ext F b c) : Ext F a c := h.trans' k (fun _ _ x => x) (fun _ _ x => x)
theorem Ext.mono {F G : Nat → Prop} {a b : World} (h : Ext F a b) (hG : ∀ i, i < a.heap.size → F i → G i) : Ext G a b := ⟨h.os, h.tape, h.output, h.size, fun i hi hn => h.blk i hi (fun f => hn (hG i hi f))⟩
theorem Ext.of_ex {F : Nat → Prop} {a b : World} (h : Ex a b) : Ext F a b := h.mono fun _ _ f => f.elim
theorem Ext.alloc (w : World) (o : Obj) : Ex w (w.alloc o) := ⟨rfl, rfl, rfl, by simp, fun k hk _ => Go.RowKit.Below.heap_alloc _ _ _ hk⟩
theorem Ext.drew (w : World) : Ex w w.drew := ⟨rfl, rfl, rfl, Nat.le_refl _, fun _ _ _ => rfl⟩
theorem Ext.drawn (w : World) (k : Nat) : Ex w { w with drawn := k } := ⟨rfl, rfl, rfl, Nat.le_refl _, fun _ _ _ => rfl⟩
theorem Ext.setCell (w : World) (a : Addr) (v : Value) : Ext (· = a.block) w (w.setCell a v) := ⟨rfl, rfl, rfl, by simp, fun _ _ hn => Go.RowKit.Below.heap_setCell _ _ _ _ hn⟩
theorem Ext.setCell' (w : World) (b o : Nat) (v : Value) : Ext (· = b) w (w.setCell ⟨b, o, none⟩ v) := Ext.setCell w ⟨b, o, none⟩ v
theorem Ext.grown {w w' : World} {row : Option Nat} (h : w.grownBy w' row) : Ext (fun k => some k = row) w w' := ⟨h.os, h.tape, h.output, h.size, fun k hk hn => h.block k hk hn⟩
theorem Ext.below {F : Nat → Prop} {B : Nat} {w w' : World} (h : Ext F w w') (hB : B ≤ w.heap.size) (hF : ∀ i, i < B → ¬ F i) : Go.RowKit.Below B w w' :=
  ⟨h.os, h.tape, h.output, h.size, fun k hk => h.blk k (by omega) (hF k hk)⟩
/-- Steps through worlds none of whose old blocks is touched. -/
theorem Ext.up {F : Nat → Prop} {a b c : World} (h : Ext F a b) (k : Ex b c) : Ext F a c := h.trans k.of_ex
/-- What is written is new since 'a'. -/
theorem Ext.up_new {F G : Nat → Prop} {a b c : World} (h : Ext F a b) (k : Ext G b c) (hG : ∀ i, G i → a.heap.size ≤ i) : Ext F a c :=
  h.trans' k (fun _ _ x => x) (fun i hi g => absurd (hG i g) (by omega))

theorem Ext.cell {F : Nat → Prop} {w w' : World} (h : Ext F w w') {b i : Nat} {v : Value} (hc : w.cell? ⟨b, i, none⟩ = some v) (hn : ¬ F b) : w'.cell? ⟨b, i, none⟩ = some v := by
  have hb := World.block_lt_of_cell? w _ hc
  rw [← hc]
  exact World.cell?_of_block (h.blk b hb hn)
theorem Ex.cell {w w' : World} (h : Ex w w') {b i : Nat} {v : Value} (hc : w.cell? ⟨b, i, none⟩ = some v) : w'.cell? ⟨b, i, none⟩ = some v := Ext.cell h hc fun f => f
theorem Blk.ext {F : Nat → Prop} {w w' : World} {b : Nat} {cs : List Value} {t : TypeId} (hb : Blk w b cs t) (h : Ext F w w') (hn : ¬ F b) : Blk w' b cs t := (h.blk b hb.lt hn).trans hb
theorem Blk.ex {w w' : World} {b : Nat} {cs : List Value} {t : TypeId} (hb : Blk w b cs t) (h : Ex w w') : Blk w' b cs t := hb.ext h fun f => f
theorem Rd.ext {F : Nat → Prop} {w w' : World} {b o : Nat} {vs : List Value} (hr : Rd w b o vs) (h : Ext F w w') (hn : ¬ F b) : Rd w' b o vs := fun j v hj => h.cell (hr j v hj) hn
theorem Rd.ex {w w' : World} {b o : Nat} {vs : List Value} (hr : Rd w b o vs) (h : Ex w w') : Rd w' b o vs := hr.ext h fun f => f
theorem Blk.alloc (w : World) (cs : List Value) (t : TypeId) : Blk (w.alloc (.cells ⟨cs⟩ t)) w.heap.size cs t := heap_alloc_new w _
theorem Blk.set {w : World} {b : Nat} {cs : List Value} {t : TypeId} (h : Blk w b cs t) (i : Nat) (v : Value) : Blk (w.setCell ⟨b, i, none⟩ v) b (cs.set i v) t := by
  unfold Blk at *
  simp only [World.setCell, Array.getElem?_modify, if_true, h, Option.map_some]
  simp

/-! ### Slices that are read: rows of cells, in blocks of which A holds. -/
structure Sl (A : Nat → Prop) (w : World) (v : Value) (size : Nat) (rows : List (List Value)) : Prop where
  is : ∃ a cap, v = .slice a rows.length cap ∧ (a = none → cap = 0) ∧ (rows ≠ [] → ∃ b o, a = some ⟨b, o, none⟩ ∧ A b ∧ ∀ i row, rows[i]? = some row → row.length = size ∧ Rd w b (o + i * size) row)
  small : rows.length ≤ maxLen
theorem Sl.ext {A F : Nat → Prop} {w w' : World} {v : Value} {size : Nat} {rows : List (List Value)} (h : Sl A w v size rows) (hx : Ext F w w') (hn : ∀ b, A b → ¬ F b) : Sl A w' v size rows := by
  obtain ⟨a, cap, hv, hz, hr⟩ := h.is
  refine ⟨⟨a, cap, hv, hz, fun hne => ?_⟩, h.small⟩
  obtain ⟨b, o, ha, hA, hrd⟩ := hr hne
  exact ⟨b, o, ha, hA, fun i row hi => ⟨(hrd i row hi).1, (hrd i row hi).2.ext hx (hn b hA)⟩⟩
theorem Sl.ex {A : Nat → Prop} {w w' : World} {v : Value} {size : Nat} {rows : List (List Value)} (h : Sl A w v size rows) (hx : Ex w w') : Sl A w' v size rows := h.ext hx fun _ _ f => f
theorem Sl.weaken {A B : Nat → Prop} {w : World} {v : Value} {size : Nat} {rows : List (List Value)} (h : Sl A w v size rows) (hn : ∀ b, A b → B b) : Sl B w v size rows := by
  obtain ⟨a, cap, hv, hz, hr⟩ := h.is
  exact ⟨⟨a, cap, hv, hz, fun hne => let ⟨b, o, ha, hA, hrd⟩ := hr hne; ⟨b, o, ha, hn b hA, hrd⟩⟩, h.small⟩
theorem Sl.nil (A : Nat → Prop) (w : World) (size : Nat) : Sl A w (.slice none 0 0) size [] := ⟨⟨none, 0, rfl, fun _ => rfl, fun h => absurd rfl h⟩, Nat.zero_le _⟩
/-- At an index: the address that the walk comes to, and the row there. -/
theorem Sl.at {A : Nat → Prop} {w : World} {v : Value} {size : Nat} {rows : List (List Value)} (h : Sl A w v size rows) {i : Nat} {row : List Value} (hi : rows[i]? = some row) :
    ∃ b o cap, v = .slice (some ⟨b, o, none⟩) rows.length cap ∧ A b ∧ i < rows.length ∧ row.length = size ∧ Rd w b (o + i * size) row := by
  obtain ⟨a, cap, hv, _, hr⟩ := h.is
  have hne : rows ≠ [] := by rintro rfl; simp at hi
  obtain ⟨b, o, rfl, hA, hrd⟩ := hr hne
  exact ⟨b, o, cap, hv, hA, (List.getElem?_eq_some_iff.1 hi).1, (hrd i row hi).1, (hrd i row hi).2⟩
/-- A block that holds the rows, one behind the other. -/
theorem Sl.of_rd {A : Nat → Prop} {w : World} {b o cap size : Nat} {rows : List (List Value)} (hA : A b) (hs : ∀ r ∈ rows, r.length = size) (hr : Rd w b o rows.flatten) (hm : rows.length ≤ maxLen) :
    Sl A w (.slice (some ⟨b, o, none⟩) rows.length cap) size rows := by
  refine ⟨⟨_, cap, rfl, (fun h => by cases h), fun _ => ⟨b, o, rfl, hA, fun i row hi => ⟨hs row (List.mem_of_getElem? hi), ?_⟩⟩⟩, hm⟩
  intro j v hj
  have hlt : j < row.length := (List.getElem?_eq_some_iff.1 hj).1
  have key : ∀ (rows : List (List Value)) (i : Nat), (∀ r ∈ rows, r.length = size) → rows[i]? = some row → rows.flatten[i * size + j]? = some v := by
    intro rows
    induction rows with
    | nil => intro i _ hi; simp at hi
    | cons r rs ih =>
      intro i hs hi
      cases i with
      | zero =>
        simp only [List.getElem?_cons_zero, Option.some.injEq] at hi
        subst hi
        simp only [List.flatten_cons, Nat.zero_mul, Nat.zero_add]
        rw [List.getElem?_append_left hlt]; exact hj
      | succ i =>
        simp only [List.getElem?_cons_succ] at hi
        have h1 : r.length = size := hs r List.mem_cons_self
        simp only [List.flatten_cons]
        rw [List.getElem?_append_right (by rw [h1, Nat.succ_mul]; omega)]
        have e : (i + 1) * size + j - r.length = i * size + j := by rw [h1, Nat.succ_mul]; omega
        rw [e]
        exact ih i (fun r hr => hs r (List.mem_cons_of_mem _ hr)) hi
  have := hr (i * size + j) v (key rows i hs hi)
  rw [show o + i * size + j = o + (i * size + j) from by omega]; exact this
/-- The rows of a slice lie one behind the other. -/
theorem Sl.rd {A : Nat → Prop} {w : World} {a : Option Addr} {cap size len : Nat} {rows : List (List Value)} (h : Sl A w (.slice a len cap) size rows) {b o : Nat} (ha : a = some ⟨b, o, none⟩) : Rd w b o rows.flatten := by
  intro j v hj
  obtain ⟨a', cap', hv, _, hr⟩ := h.is
  have hne : rows ≠ [] := by rintro rfl; simp at hj
  obtain ⟨b', o', ha', _, hrd⟩ := hr hne
  simp only [Value.slice.injEq] at hv
  rw [ha', ha] at hv
  simp only [Option.some.injEq, Addr.mk.injEq, and_true] at hv
  obtain ⟨⟨rfl, rfl⟩, _, _⟩ := hv
  have key : ∀ (rows : List (List Value)) (o j : Nat), (∀ i row, rows[i]? = some row → row.length = size ∧ Rd w b (o + i * size) row) → rows.flatten[j]? = some v → w.cell? ⟨b, o + j, none⟩ = some v := by
    intro rows
    induction rows with
    | nil => intro o j _ hj; simp at hj
    | cons r rs ih =>
      intro o j hrd hj
      obtain ⟨h1, h2⟩ := hrd 0 r (by simp)
      simp only [List.flatten_cons] at hj
      by_cases hlt : j < r.length
      · rw [List.getElem?_append_left hlt] at hj
        have := h2 j v hj
        simpa using this
      · rw [List.getElem?_append_right (by omega)] at hj
        have := ih (o + size) (j - r.length) (fun i row hi => by
          have := hrd (i + 1) row (by simpa using hi)
          rwa [show o + (i + 1) * size = o + size + i * size from by rw [Nat.succ_mul]; omega] at this) hj
        rwa [show o + size + (j - r.length) = o + j from by omega] at this
  exact key rows o j hrd hj

/-! ### A slice of the call's own. -/
theorem own_sl {A : Nat → Prop} {w : World} {base : Nat} {e : TypeId} {size : Nat} {v : Value} {rows : List (List Value)} (h : w.ownsRow base e size v rows.length rows.flatten) (hs : ∀ r ∈ rows, r.length = size)
    (hA : ∀ b, v.ownBlock = some b → A b) : Sl A w v size rows := by
  rcases h.2 with ⟨rfl, h0⟩ | ⟨g, cap, cur, rfl, hb, hg, hnc, hcm, hcs, htake⟩
  · have : rows = [] := List.eq_nil_of_length_eq_zero h0
    subst this; exact Sl.nil _ _ _
  · refine Sl.of_rd (hA g rfl) hs ?_ (by omega)
    intro j u hj
    have := h.cells (g := g) rfl j u hj
    rwa [addr_add] at this
theorem own_ext {F : Nat → Prop} {w w' : World} {base : Nat} {e : TypeId} {size n : Nat} {v : Value} {xs : List Value} (h : w.ownsRow base e size v n xs) (hx : Ext F w w') (hn : ∀ b, v.ownBlock = some b → ¬ F b) : w'.ownsRow base e size v n xs := by
  refine ⟨h.1, ?_⟩
  rcases h.2 with hnil | ⟨g, cap, cur, rfl, hb, hgg, rest⟩
  · exact .inl hnil
  · refine .inr ⟨g, cap, cur, rfl, hb, ?_, rest⟩
    rw [hx.blk g (Array.getElem?_eq_some_iff.1 hgg).1 (hn g rfl)]
    exact hgg
theorem own_ex {w w' : World} {base : Nat} {e : TypeId} {size n : Nat} {v : Value} {xs : List Value} (h : w.ownsRow base e size v n xs) (hx : Ex w w') : w'.ownsRow base e size v n xs := own_ext h hx fun _ _ f => f
theorem own_lit {w : World} {b e size n : Nat} {cs : List Value} {base : Nat} (h : Blk w b cs e) (hb : base ≤ b) (hl : cs.length = n * size) (hm : n ≤ maxLen) : w.ownsRow base e size (.slice (some ⟨b, 0, none⟩) n n) n cs :=
  ⟨hl, .inr ⟨b, n, ⟨cs⟩, rfl, hb, h, Nat.le_refl _, hm, by simpa using hl, by rw [← hl]; exact List.take_length⟩⟩

section
variable {P : Program} {T : Tab} {n : Nat} {fr : Fr} {w : World} {Q : Exit → Act → World → Prop} {ops : Array Oper} {rest : List Oper}
/-- A value laid in a block of its own. -/
theorem lw_box {d t : Nat} {x : Operand} {ty : TypeId} {ps : String} {af : Array Edge} {v : Value} (hx : ev n fr x = some v)
    (k : ∀ b w1, b = w.heap.size → Blk w1 b v.cells.toList t → Ex w w1 → w1.heap.size = w.heap.size + 1 → LW P ops Q rest n ((d, .pointer (some ⟨b, 0, none⟩)) :: fr) w1) :
    LW P ops Q ({ dst := some d, op := .box t x, type := ty, pos := ps, after := af, guard := none } :: rest) n fr w :=
  lw_run rfl rfl (w' := w.alloc (.cells ⟨v.cells.toList⟩ t)) (fun a hk => by simp [execOp, ev_sound hk hx, Instr.box, newVar, newRow])
    (k w.heap.size _ rfl (Blk.alloc _ _ _) (Ext.alloc _ _) (by simp))
theorem lw_alloc {d t : Nat} {ty : TypeId} {ps : String} {af : Array Edge} {z : Value} (hz : (P.info? t).bind (·.zero) = some z)
    (k : ∀ b w1, b = w.heap.size → Blk w1 b z.cells.toList t → Ex w w1 → w1.heap.size = w.heap.size + 1 → LW P ops Q rest n ((d, .pointer (some ⟨b, 0, none⟩)) :: fr) w1) :
    LW P ops Q ({ dst := some d, op := .alloc t, type := ty, pos := ps, after := af, guard := none } :: rest) n fr w := by
  obtain ⟨i, hi, hz'⟩ := Option.bind_eq_some_iff.1 hz
  refine lw_run rfl rfl (w' := w.alloc (.cells ⟨z.cells.toList⟩ t)) (fun a hk => ?_) (k w.heap.size _ rfl (Blk.alloc _ _ _) (Ext.alloc _ _) (by simp))
  simp [execOp, Instr.alloc, zeroValue, typeInfo, hi, hz', newVar, newRow]
/-- A store of one cell. -/
theorem lw_store (hT : TabOk P T) {t size : Nat} {x y : Operand} {ty : TypeId} {ps : String} {af : Array Edge} {b o e : Nat} {v : Value} {cs : List Value} (hx : ev n fr x = some (.pointer (some ⟨b, o, none⟩))) (hy : ev n fr y = some v)
    (ht : look T.kinds t = some (false, 1)) (hv : v.oneCell' = true) (hb : Blk w b cs e) (ho : o < cs.length)
    (k : ∀ w1, Blk w1 b (cs.set o v) e → Ext (· = b) w w1 → w1.heap.size = w.heap.size → LW P ops Q rest n fr w1) :
    LW P ops Q ({ dst := none, op := .store t x y, type := ty, pos := ps, after := af, guard := none } :: rest) n fr w := by
  obtain ⟨i, d, hi, hs, hu, hd⟩ := hT.kind ht
  have hc1 : v.cells = #[v] := by cases v <;> simp_all [Value.oneCell', Value.cells]
  refine lw_run_skip rfl rfl (w' := w.setCell ⟨b, o, none⟩ v) (fun a hk => ?_) (k _ (hb.set o v) (Ext.setCell' _ _ _ _) (by simp))
  have hcell : w.cell? ⟨b, o, none⟩ = some cs[o] := by rw [hb.cell]; simp [ho]
  have hst : (store ⟨b, o, none⟩ v).run P w = .ok () (w.setCell ⟨b, o, none⟩ v) := by
    rw [run_store P w _ v _ hv, hcell, hb.frozen]; rfl
  simp [execOp, ev_sound hk hx, ev_sound hk hy, Instr.storeAt, Instr.sureAddr, storeVar, sizeOf, typeInfo, hi, hs, hc1, storeCells, addr_add, hst]

/-- Several cells stored, one behind the other. -/
def setMany : List Value → Nat → List Value → List Value
  | cs, _, [] => cs
  | cs, o, v :: r => setMany (cs.set o v) (o + 1) r
theorem setMany_length : ∀ (vs cs : List Value) (o : Nat), (setMany cs o vs).length = cs.length
  | [], _, _ => rfl
  | v :: r, cs, o => by simp [setMany, setMany_length r]
theorem run_storeCells_many {b e : Nat} : ∀ (vs : List Value) (i o : Nat) (cs : List Value) (w : World), Blk w b cs e → o + i + vs.length ≤ cs.length → (∀ v ∈ vs, v.oneCell' = true) →
    ∃ w1, (storeCells ⟨b, o, none⟩ vs i).run P w = .ok () w1 ∧ Blk w1 b (setMany cs (o + i) vs) e ∧ Ext (· = b) w w1 ∧ w1.heap.size = w.heap.size
  | [], i, o, cs, w, hb, _, _ => ⟨w, by simp [storeCells], hb, Ext.refl _ _, rfl⟩
  | v :: r, i, o, cs, w, hb, hl, hv => by
    have hv1 := hv v List.mem_cons_self
    simp only [List.length_cons] at hl
    have hcell : w.cell? ⟨b, o + i, none⟩ = some (cs[o + i]'(by omega)) := by rw [hb.cell]; simp
    have hst : (store ⟨b, o + i, none⟩ v).run P w = .ok () (w.setCell ⟨b, o + i, none⟩ v) := by
      rw [run_store P w _ v _ hv1, hcell, hb.frozen]; rfl
    obtain ⟨w1, h1, h2, h3, h4⟩ := run_storeCells_many r (i + 1) o (cs.set (o + i) v) (w.setCell ⟨b, o + i, none⟩ v) (hb.set _ _) (by simp; omega) (fun u hu => hv u (List.mem_cons_of_mem _ hu))
    refine ⟨w1, ?_, h2, (Ext.setCell' _ _ _ _).trans h3, by simpa using h4⟩
    simp only [storeCells, Sem.run_bind, addr_add, hst, Result.andThen_ok]
    exact h1
theorem lw_store_agg (hT : TabOk P T) {t size : Nat} {x y : Operand} {ty : TypeId} {ps : String} {af : Array Edge} {b o e : Nat} {vs cs : List Value} (hx : ev n fr x = some (.pointer (some ⟨b, o, none⟩))) (hy : ev n fr y = some (.agg ⟨vs⟩))
    (ht : look T.kinds t = some (true, size)) (hl : Nat.beq vs.length size = true) (hv : ∀ v ∈ vs, v.oneCell' = true) (hb : Blk w b cs e) (ho : o + vs.length ≤ cs.length)
    (k : ∀ w1, Blk w1 b (setMany cs o vs) e → Ext (· = b) w w1 → w1.heap.size = w.heap.size → LW P ops Q rest n fr w1) :
    LW P ops Q ({ dst := none, op := .store t x y, type := ty, pos := ps, after := af, guard := none } :: rest) n fr w := by
  obtain ⟨i, d, hi, hs, hu, hd⟩ := hT.kind ht
  obtain ⟨w1, h1, h2, h3, h4⟩ := run_storeCells_many (P := P) vs 0 o cs w hb (by omega) hv
  refine lw_run_skip rfl rfl (w' := w1) (fun a hk => ?_) (k _ (by simpa using h2) h3 h4)
  have e1 : vs.length = i.size := by rw [hs]; exact Nat.eq_of_beq_eq_true hl
  simp [execOp, ev_sound hk hx, ev_sound hk hy, Instr.storeAt, Instr.sureAddr, storeVar, sizeOf, typeInfo, hi, Value.cells, e1, h1]

/-- A slice written out: its elements' cells, one behind the other. -/
def cellsIf (v : Value) (size : Nat) : Option (List Value) := match v with
  | .agg ⟨l⟩ => match Nat.beq l.length size with
    | true => some l
    | false => none
  | .tuple _ => none
  | v => match Nat.beq 1 size with
    | true => some [v]
    | false => none
theorem cellsIf_eq {v : Value} {size : Nat} {l : List Value} (h : cellsIf v size = some l) : v.cells = ⟨l⟩ ∧ l.length = size := by
  cases v <;> simp only [cellsIf] at h <;> (try (split at h)) <;> (try (split at h)) <;> simp_all [Value.cells] <;> first | exact Nat.eq_of_beq_eq_true (by assumption) | (subst h; simp; assumption) | skip
def lapp : List Value → List Value → Option (List Value)
  | [], r => some r
  | a :: l, r => match lapp l r with
    | some l' => some (a :: l')
    | none => none
theorem lapp_eq : ∀ {l r s : List Value}, lapp l r = some s → s = l ++ r
  | [], r, s, h => by simpa [lapp] using h.symm
  | a :: l, r, s, h => by
    simp only [lapp] at h
    cases hl : lapp l r with
    | none => simp [hl] at h
    | some l' => simp only [hl, Option.some.injEq] at h; rw [← h, lapp_eq hl]; rfl
def partsOf (n : Nat) (fr : Fr) (size : Nat) : Nat → List (Nat × Operand) → Option (List Value)
  | _, [] => some []
  | i, (j, x) :: r => match Nat.beq i j, ev n fr x, partsOf n fr size (i + 1) r with
    | true, some v, some vs => match cellsIf v size with
      | some l => lapp l vs
      | none => none
    | _, _, _ => none
theorem fill_parts {n : Nat} {fr : Fr} {a : Act} (hk : Kn n fr a) {size : Nat} : ∀ (l : List (Nat × Operand)) (i : Nat) (vs : List Value) (pre post : List Value), partsOf n fr size i l = some vs → pre.length = i * size → post.length = l.length * size →
    Instr.fill (fun i => some (i * size, size)) ⟨pre ++ post⟩ (l.map fun x => (x.1, a.eval x.2)) = some ⟨pre ++ vs⟩ ∧ vs.length = l.length * size
  | [], i, vs, pre, post, h, h1, h2 => by
    simp only [partsOf, Option.some.injEq] at h
    subst h
    have : post = [] := List.eq_nil_of_length_eq_zero (by simpa using h2)
    subst this
    simp [Instr.fill]
  | (j, x) :: r, i, vs, pre, post, h, h1, h2 => by
    simp only [partsOf] at h
    -- one part, of the cells 'c'
    have step : ∀ (c : List Value) (us : List Value), i = j → (a.eval x).cells = ⟨c⟩ → c.length = size → partsOf n fr size (i + 1) r = some us → vs = c ++ us →
        Instr.fill (fun i => some (i * size, size)) ⟨pre ++ post⟩ (((j, x) :: r).map fun x => (x.1, a.eval x.2)) = some ⟨pre ++ vs⟩ ∧ vs.length = ((j, x) :: r).length * size := by
      intro c us hij hc hcl hr hvs
      subst hij; subst hvs
      simp only [List.length_cons, Nat.succ_mul] at h2
      obtain ⟨g1, g2⟩ := fill_parts hk r (i + 1) us (pre ++ c) (post.drop size) hr (by simp [h1, hcl, Nat.succ_mul]) (by simp [h2])
      have hsz : i * size + c.length ≤ (pre ++ post).length := by simp [h1]; omega
      have hfold : ∀ (c : List Value) (k : Nat) (cs : Array Value), (c.zipIdx k).foldl (fun cs (x : Value × Nat) => cs.setIfInBounds (i * size + x.2) x.1) cs = ⟨setMany cs.toList (i * size + k) c⟩ := by
        intro c
        induction c with
        | nil => intro k cs; simp [setMany]
        | cons v c ih =>
          intro k cs
          simp only [List.zipIdx_cons, List.foldl_cons]
          rw [ih]
          simp [setMany, Nat.add_assoc]
      have hset : ∀ (c pre post : List Value), c.length ≤ post.length → setMany (pre ++ post) pre.length c = pre ++ c ++ post.drop c.length := by
        intro c
        induction c with
        | nil => intro pre post _; simp [setMany]
        | cons v c ih =>
          intro pre post hl
          match post, hl with
          | p :: post, hl =>
            have := ih (pre ++ [v]) post (by simpa using hl)
            simp only [List.length_append, List.length_cons, List.length_nil, Nat.zero_add] at this
            simp only [setMany]
            rw [show (pre ++ p :: post).set pre.length v = pre ++ [v] ++ post from by simp]
            rw [this]; simp
      have e2 := hfold c 0 ⟨pre ++ post⟩
      rw [show setMany (⟨pre ++ post⟩ : Array Value).toList (i * size + 0) c = pre ++ c ++ post.drop size from by
        have := hset c pre post (by rw [hcl]; omega)
        rw [h1, hcl] at this; simpa using this] at e2
      simp only [List.map_cons, Instr.fill, hc]
      rw [if_neg (by simp [hcl, h1]; omega)]
      rw [← Array.foldl_toList, Array.toList_zipIdx, e2, g1]
      simp [g2, hcl, Nat.succ_mul, Nat.add_comm]
    split at h
    · rename_i v us hb hx hr
      split at h
      · rename_i l hl
        obtain ⟨e1, e2⟩ := cellsIf_eq hl
        exact step l us (Nat.eq_of_beq_eq_true hb) (by rw [ev_sound hk hx]; exact e1) e2 hr (lapp_eq h)
      · cases h
    · cases h

/-- A slice type's element: its number, its cells, its bytes. -/
def SlT (P : Program) (t e size bytes : Nat) : Prop := P.underlying t = some (.slice e) ∧ ∃ i z, P.info? e = some i ∧ i.zero = some z ∧ i.size = size ∧ i.bytes = bytes ∧ z.cells.size = size
theorem slT_of {P : Program} {t e size bytes : Nat} (h1 : P.underlying t = some (.slice e)) (h2 : (P.info? e).map (fun i => (i.zero.map (·.cells.size), i.size, i.bytes)) = some (some size, size, bytes)) : SlT P t e size bytes := by
  obtain ⟨i, hi, h⟩ := Option.map_eq_some_iff.1 h2
  simp only [Prod.mk.injEq] at h
  obtain ⟨z, hz, hz2⟩ := Option.map_eq_some_iff.1 h.1
  exact ⟨h1, i, z, hi, hz, h.2.1, h.2.2, hz2⟩

theorem lw_buildSlice {d t e size bytes len : Nat} {parts : Array (Nat × Operand)} {ty : TypeId} {ps : String} {af : Array Edge} {vs : List Value} (hS : SlT P t e size bytes)
    (h : partsOf n fr size 0 parts.toList = some vs) (hl : Nat.beq parts.toList.length len = true) (hsm : Nat.ble (len * size) 16777216 = true)
    (k : ∀ b w1, b = w.heap.size → Blk w1 b vs e → Ex w w1 → w1.heap.size = w.heap.size + 1 → LW P ops Q rest n ((d, .slice (some ⟨b, 0, none⟩) len len) :: fr) w1) :
    LW P ops Q ({ dst := some d, op := .buildSlice t len parts, type := ty, pos := ps, after := af, guard := none } :: rest) n fr w := by
  obtain ⟨hu, i, z, hi, hz, hs, hb, hzs⟩ := hS
  refine lw_run rfl rfl (w' := w.alloc (.cells ⟨vs⟩ e)) (fun a hk => ?_) (k w.heap.size _ rfl (Blk.alloc _ _ _) (Ext.alloc _ _) (by simp))
  have hlen := Nat.eq_of_beq_eq_true hl
  have hsm' := Nat.le_of_ble_eq_true hsm
  have key : ∀ post : List Value, post.length = len * size → Instr.fill (fun i => some (i * size, size)) ⟨post⟩ (parts.toList.map fun x => (x.1, a.eval x.2)) = some ⟨vs⟩ := by
    intro post hp
    have := (fill_parts hk parts.toList 0 vs [] post h (by simp) (by rw [hp, hlen])).1
    simpa using this
  have hparts : (parts.map fun (i, x) => (i, a.eval x)).toList = parts.toList.map fun x => (x.1, a.eval x.2) := by simp
  simp only [execOp, Instr.buildSlice, Sem.run_bind, run_underlying hu, Result.andThen_ok, sizeOf, typeInfo, run_program, hi, Sem.run_pure, hs]
  rw [if_neg (by omega)]
  simp only [hparts]
  by_cases h0 : len * size = 0
  · rw [if_pos h0, Sem.run_bind, Sem.run_pure, Result.andThen_ok]
    rw [show ((Array.range (len * size)).map fun x => (#[] : Array Value)[x % (#[] : Array Value).size]!) = ⟨[]⟩ from by rw [h0]; simp]
    rw [key [] (by simp [h0])]
    simp [newRow]
  · rw [if_neg h0]
    simp only [zeroValue, typeInfo, Sem.run_bind, run_program, Result.andThen_ok, hi, Sem.run_pure, hz]
    have := key (((Array.range (len * size)).map fun x => z.cells[x % z.cells.size]!)).toList (by simp)
    rw [show (⟨(((Array.range (len * size)).map fun x => z.cells[x % z.cells.size]!)).toList⟩ : Array Value) = ((Array.range (len * size)).map fun x => z.cells[x % z.cells.size]!) from rfl] at this
    rw [this]
    simp [newRow]

/-- append onto a slice of the call's own. -/
theorem lw_append {d t e size bytes base : Nat} {x y : Operand} {ty : TypeId} {ps : String} {af : Array Edge} {v : Value} {m m' c b o : Nat} {xs news : List Value} (hS : SlT P t e size bytes) (hsz : 0 < size)
    (hx : ev n fr x = some v) (hown : w.ownsRow base e size v m xs) (hy : ev n fr y = some (.slice (some ⟨b, o, none⟩) m' c)) (hr : Rd w b o news) (hl : news.length = m' * size) (h1 : ∀ u ∈ news, u.oneCell' = true)
    (h63 : m + m' ≤ maxLen) (hbytes : (m + m') * bytes ≤ 140737488355328) (hbase : base ≤ w.heap.size)
    (k : ∀ v' w1, w1.ownsRow base e size v' (m + m') (xs ++ news) → Ext (fun k => some k = v.ownBlock) w w1 → (v' = .slice none 0 0 ↔ v = .slice none 0 0 ∧ m' = 0) → (v'.ownBlock = v.ownBlock ∨ v'.ownBlock = some w.heap.size) → LW P ops Q rest n ((d, v') :: fr) w1) :
    LW P ops Q ({ dst := some d, op := .call ⟨.builtin .append, #[x, y], #[t, t]⟩, type := ty, pos := ps, after := af, guard := none } :: rest) n fr w := by
  obtain ⟨hu, i, z, hi, hz, hs, hb, hzs⟩ := hS
  obtain ⟨v', w', g1, g2, g3, g4, g5⟩ := run_append_own_at (P := P) w base t ty e i z size bytes hu hi hz hs hb hzs hsz v m xs hown ⟨b, o, none⟩ m' c news hl (fun j u hj => by rw [addr_add]; exact hr j u hj) h1 h63 hbytes hbase
  refine lw_run rfl rfl (w' := w') (fun a hk => ?_) (k v' w' g2 (Ext.grown g3) g4 g5)
  simp [execOp, resolve, invoke, builtin, ev_sound hk hx, ev_sound hk hy, g1]
/-- The same, whatever address the source has. -/
theorem lw_append_at {d t e size bytes base : Nat} {x y : Operand} {ty : TypeId} {ps : String} {af : Array Edge} {v : Value} {m m' c : Nat} {ad : Addr} {xs news : List Value} (hS : SlT P t e size bytes) (hsz : 0 < size)
    (hx : ev n fr x = some v) (hown : w.ownsRow base e size v m xs) (hy : ev n fr y = some (.slice (some ad) m' c)) (hr : ∀ j u, news[j]? = some u → w.cell? (ad.add j) = some u) (hl : news.length = m' * size) (h1 : ∀ u ∈ news, u.oneCell' = true)
    (h63 : m + m' ≤ maxLen) (hbytes : (m + m') * bytes ≤ 140737488355328) (hbase : base ≤ w.heap.size)
    (k : ∀ v' w1, w1.ownsRow base e size v' (m + m') (xs ++ news) → Ext (fun k => some k = v.ownBlock) w w1 → (v' = .slice none 0 0 ↔ v = .slice none 0 0 ∧ m' = 0) → (v'.ownBlock = v.ownBlock ∨ v'.ownBlock = some w.heap.size) → LW P ops Q rest n ((d, v') :: fr) w1) :
    LW P ops Q ({ dst := some d, op := .call ⟨.builtin .append, #[x, y], #[t, t]⟩, type := ty, pos := ps, after := af, guard := none } :: rest) n fr w := by
  obtain ⟨hu, i, z, hi, hz, hs, hb, hzs⟩ := hS
  obtain ⟨v', w', g1, g2, g3, g4, g5⟩ := run_append_own_at (P := P) w base t ty e i z size bytes hu hi hz hs hb hzs hsz v m xs hown ad m' c news hl hr h1 h63 hbytes hbase
  refine lw_run rfl rfl (w' := w') (fun a hk => ?_) (k v' w' g2 (Ext.grown g3) g4 g5)
  simp [execOp, resolve, invoke, builtin, ev_sound hk hx, ev_sound hk hy, g1]
theorem lw_append_nil {d t e size bytes base : Nat} {x y : Operand} {ty : TypeId} {ps : String} {af : Array Edge} {v : Value} {m : Nat} {xs : List Value} (hS : SlT P t e size bytes)
    (hx : ev n fr x = some v) (hown : w.ownsRow base e size v m xs) (hy : ev n fr y = some (.slice none 0 0)) (k : LW P ops Q rest n ((d, v) :: fr) w) :
    LW P ops Q ({ dst := some d, op := .call ⟨.builtin .append, #[x, y], #[t, t]⟩, type := ty, pos := ps, after := af, guard := none } :: rest) n fr w := by
  obtain ⟨hu, i, z, hi, hz, hs, hb, hzs⟩ := hS
  have g1 := run_append_owned_none (P := P) w base t ty e i size hu hi v m xs hown
  refine lw_run rfl rfl (w' := w) (fun a hk => ?_) k
  simp [execOp, resolve, invoke, builtin, ev_sound hk hx, ev_sound hk hy, g1]

/-- append onto a slice of the call's own, of all of a slice that is read (it may be nil). -/
theorem lw_append_sl {d t e size bytes base : Nat} {x y : Operand} {ty : TypeId} {ps : String} {af : Array Edge} {v v2 : Value} {m : Nat} {xs : List Value} {A : Nat → Prop} {rows : List (List Value)} (hS : SlT P t e size bytes) (hsz : 0 < size)
    (hx : ev n fr x = some v) (hown : w.ownsRow base e size v m xs) (hy : ev n fr y = some v2) (hr : Sl A w v2 size rows) (h1 : ∀ r ∈ rows, ∀ u ∈ r, u.oneCell' = true)
    (h63 : m + rows.length ≤ maxLen) (hbytes : (m + rows.length) * bytes ≤ 140737488355328) (hbase : base ≤ w.heap.size)
    (k : ∀ v' w1, w1.ownsRow base e size v' (m + rows.length) (xs ++ rows.flatten) → Ext (fun k => some k = v.ownBlock) w w1 → (v' = .slice none 0 0 → v = .slice none 0 0) → (v'.ownBlock = v.ownBlock ∨ v'.ownBlock = some w.heap.size) → LW P ops Q rest n ((d, v') :: fr) w1) :
    LW P ops Q ({ dst := some d, op := .call ⟨.builtin .append, #[x, y], #[t, t]⟩, type := ty, pos := ps, after := af, guard := none } :: rest) n fr w := by
  obtain ⟨a, cap, hv, hz, hrd⟩ := hr.is
  have hlen : rows.flatten.length = rows.length * size := by
    have key : ∀ (l : List (List Value)), (∀ (i : Nat) (row : List Value), l[i]? = some row → row.length = size) → l.flatten.length = l.length * size := by
      intro l
      induction l with
      | nil => intro _; simp
      | cons r l ih =>
        intro h
        have h0 := h 0 r (by simp)
        have := ih fun i row hi => h (i + 1) row (by simpa using hi)
        simp only [List.flatten_cons, List.length_append, this, h0, List.length_cons, Nat.succ_mul]; omega
    refine key rows fun i row hi => ?_
    have hne : rows ≠ [] := by rintro rfl; simp at hi
    obtain ⟨b, o, _, _, h⟩ := hrd hne
    exact (h i row hi).1
  cases a with
  | none =>
    have h0 : rows = [] := by
      by_cases h : rows = []
      · exact h
      · obtain ⟨b, o, ha, _⟩ := hrd h; cases ha
    subst h0
    have hc := hz rfl
    subst hc
    have hv' : v2 = .slice none 0 0 := by simpa using hv
    subst hv'
    refine lw_append_nil hS hx hown hy (k v w (by simpa using hown) (Ext.refl _ _) (fun h => h) (.inl rfl))
  | some ad =>
    rw [hv] at hy
    refine lw_append_at hS hsz hx hown hy (news := rows.flatten) (fun j u hj => ?_) hlen (fun u hu => ?_) h63 hbytes hbase (fun v' w1 g1 g2 g3 g4 => k v' w1 g1 g2 (fun h => (g3.1 h).1) g4)
    · have hne : rows ≠ [] := by rintro rfl; simp at hj
      obtain ⟨b, o, ha, _⟩ := hrd hne
      simp only [Option.some.injEq] at ha
      subst ha
      rw [addr_add]
      rw [hv] at hr
      exact hr.rd rfl j u hj
    · obtain ⟨r, hr, hu⟩ := List.mem_flatten.1 hu
      exact h1 r hr u hu

/-! ### Maps keyed by strings, that only grow. -/
def MpT (P : Program) (t e : Nat) (z : Value) : Prop := ∃ kt, P.underlying t = some (.map kt e) ∧ P.underlying kt = some .string ∧ (P.info? e).bind (·.zero) = some z
structure Mp (w : World) (b : Nat) (es : List (ByteArray × Value)) : Prop where
  is : ∃ ents clock, w.heap[b]? = some (.map ents clock) ∧ ents.toList.map (fun e => (e.key, e.val)) = es.map (fun e => (Value.string e.1, e.2)) ∧ ents.toList.map (·.born) = List.range es.length ∧ clock = es.length
theorem Mp.ext {F : Nat → Prop} {w w' : World} {b : Nat} {es : List (ByteArray × Value)} (h : Mp w b es) (hx : Ext F w w') (hn : ¬ F b) : Mp w' b es := by
  obtain ⟨ents, clock, h1, h2⟩ := h.is
  exact ⟨ents, clock, (hx.blk b (Array.getElem?_eq_some_iff.1 h1).1 hn).trans h1, h2⟩
theorem Mp.ex {w w' : World} {b : Nat} {es : List (ByteArray × Value)} (h : Mp w b es) (hx : Ex w w') : Mp w' b es := h.ext hx fun f => f
theorem Mp.lt {w : World} {b : Nat} {es : List (ByteArray × Value)} (h : Mp w b es) : b < w.heap.size := by obtain ⟨_, _, h1, _⟩ := h.is; exact (Array.getElem?_eq_some_iff.1 h1).1
def mget (es : List (ByteArray × Value)) (k : ByteArray) : Option Value := (es.find? fun e => decide (k = e.1)).map (·.2)
theorem findNow_mget {k : ByteArray} : ∀ (ents : List MapEntry) (es : List (ByteArray × Value)) (i : Nat), ents.map (fun e => (e.key, e.val)) = es.map (fun e => (Value.string e.1, e.2)) →
    ∃ r, Instr.findNow .string (.string k) ents i = some r ∧ r.map (·.2) = mget es k
  | [], [], i, _ => ⟨none, rfl, rfl⟩
  | [], _ :: _, _, h => by simp at h
  | _ :: _, [], _, h => by simp at h
  | e :: ents, x :: es, i, h => by
    simp only [List.map_cons, List.cons.injEq, Prod.mk.injEq] at h
    obtain ⟨⟨h1, h2⟩, h3⟩ := h
    have hb : (k == x.1) = decide (k = x.1) := by
      rw [Bool.eq_iff_iff, MapKept.bytes_beq]; simp
    by_cases hk : k = x.1
    · refine ⟨some (i, e.val), ?_, by simp [mget, hk, h2]⟩
      simp only [Instr.findNow, h1, Instr.sameNow, hb]
      rw [decide_eq_true hk]
    · obtain ⟨r, g1, g2⟩ := findNow_mget (k := k) ents es (i + 1) h3
      refine ⟨r, ?_, by rw [g2]; simp [mget, hk]⟩
      simp only [Instr.findNow, h1, Instr.sameNow, hb]
      rw [decide_eq_false hk]
      exact g1
theorem run_find {kt b : Nat} {k : ByteArray} {ents : Array MapEntry} {es : List (ByteArray × Value)} (hk : P.underlying kt = some .string) (h : ents.toList.map (fun e => (e.key, e.val)) = es.map (fun e => (Value.string e.1, e.2))) :
    ∃ r, (Instr.findKey kt (.string k) ents.toList).run P w = .ok r w ∧ r.map (·.2) = mget es k := by
  obtain ⟨r, g1, g2⟩ := findNow_mget (k := k) ents.toList es 0 h
  exact ⟨r, MapKept.run_findKey hk g1, g2⟩
theorem lw_makeMap {d t : Nat} {ty : TypeId} {ps : String} {af : Array Edge}
    (k : ∀ b w1, b = w.heap.size → Mp w1 b [] → Ex w w1 → w1.heap.size = w.heap.size + 1 → LW P ops Q rest n ((d, .map (some b)) :: fr) w1) :
    LW P ops Q ({ dst := some d, op := .makeMap t none, type := ty, pos := ps, after := af, guard := none } :: rest) n fr w :=
  lw_run rfl rfl (w' := w.alloc (.map #[] 0)) (fun a hk => by simp [execOp, Instr.makeMap])
    (k w.heap.size _ rfl ⟨#[], 0, heap_alloc_new w _, rfl, rfl, rfl⟩ (Ext.alloc _ _) (by simp))
theorem run_lookup_mp {t e b : Nat} {z : Value} {es : List (ByteArray × Value)} {ks : ByteArray} {c : Bool} (hM : MpT P t e z) (hm : Mp w b es) :
    (Instr.lookup t (.map (some b)) (.string ks) c).run P w = .ok (if c then .tuple #[(mget es ks).getD z, .bool (mget es ks).isSome] else (mget es ks).getD z) w := by
  obtain ⟨kt, hu, hkt, hz⟩ := hM
  obtain ⟨i, hi, hz'⟩ := Option.bind_eq_some_iff.1 hz
  obtain ⟨ents, clock, h1, h2, h3, h4⟩ := hm.is
  obtain ⟨r, g1, g2⟩ := run_find (P := P) (w := w) (b := b) (k := ks) hkt h2
  have hck := fun em => MapKept.run_checkKey (P := P) (w := w) (k := .string ks) hkt trivial em 9999
  simp only [Instr.lookup, Sem.run_bind, run_underlying hu, Result.andThen_ok, MapKept.run_getObj_map h1, Sem.run_pure, hck, g1]
  rw [← g2]
  cases r with
  | none => simp [zeroValue, typeInfo, hi, hz']
  | some x => simp
theorem lw_lookup {d t e b : Nat} {z : Value} {es : List (ByteArray × Value)} {ks : ByteArray} {x y : Operand} {ty : TypeId} {ps : String} {af : Array Edge} (hM : MpT P t e z) (hx : ev n fr x = some (.map (some b))) (hy : ev n fr y = some (.string ks)) (hm : Mp w b es)
    (k : LW P ops Q rest n ((d, (mget es ks).getD z) :: fr) w) :
    LW P ops Q ({ dst := some d, op := .lookup t x y false, type := ty, pos := ps, after := af, guard := none } :: rest) n fr w :=
  lw_run rfl rfl (fun a hk => by simp [execOp, ev_sound hk hx, ev_sound hk hy, run_lookup_mp hM hm]) k
theorem lw_lookup_ok {d t e b : Nat} {z : Value} {es : List (ByteArray × Value)} {ks : ByteArray} {x y : Operand} {ty : TypeId} {ps : String} {af : Array Edge} (hM : MpT P t e z) (hx : ev n fr x = some (.map (some b))) (hy : ev n fr y = some (.string ks)) (hm : Mp w b es)
    (k : LW P ops Q rest n ((d, .tuple #[(mget es ks).getD z, .bool (mget es ks).isSome]) :: fr) w) :
    LW P ops Q ({ dst := some d, op := .lookup t x y true, type := ty, pos := ps, after := af, guard := none } :: rest) n fr w :=
  lw_run rfl rfl (fun a hk => by simp [execOp, ev_sound hk hx, ev_sound hk hy, run_lookup_mp hM hm]) k
theorem lw_maplen {d t e b : Nat} {z : Value} {es : List (ByteArray × Value)} {x : Operand} {ty : TypeId} {ps : String} {af : Array Edge} (hM : MpT P t e z) (hx : ev n fr x = some (.map (some b))) (hm : Mp w b es)
    (k : LW P ops Q rest n ((d, .int .i64 (es.length : Nat)) :: fr) w) :
    LW P ops Q ({ dst := some d, op := .call ⟨.builtin .len, #[x], #[t]⟩, type := ty, pos := ps, after := af, guard := none } :: rest) n fr w := by
  obtain ⟨kt, hu, _, _⟩ := hM
  obtain ⟨ents, clock, h1, h2, h3, h4⟩ := hm.is
  have hl : ents.size = es.length := by have := congrArg List.length h2; simpa using this
  exact lw_run rfl rfl (fun a hk => by simp [execOp, resolve, invoke, builtin, Builtin.len_, ev_sound hk hx, run_underlying hu, MapKept.run_getObj_map h1, goInt, hl]) k
/-- A key that is new. -/
theorem run_mapUpdate_new {t e b : Nat} {z v : Value} {es : List (ByteArray × Value)} {ks : ByteArray} (hM : MpT P t e z) (hm : Mp w b es) (hnew : mget es ks = none) :
    ∃ w1, (Instr.mapUpdate t (.map (some b)) (.string ks) v).run P w = .ok () w1 ∧ Mp w1 b (es ++ [(ks, v)]) ∧ Ext (· = b) w w1 ∧ w1.heap.size = w.heap.size := by
  obtain ⟨kt, hu, hkt, hz⟩ := hM
  obtain ⟨ents, clock, h1, h2, h3, h4⟩ := hm.is
  obtain ⟨r, g1, g2⟩ := run_find (P := P) (w := w) (b := b) (k := ks) hkt h2
  have hr : r = none := by rw [hnew] at g2; simpa using g2
  subst hr
  have hck := fun em => MapKept.run_checkKey (P := P) (w := w) (k := .string ks) hkt trivial em 9999
  have hlt := (Array.getElem?_eq_some_iff.1 h1).1
  refine ⟨{ w with heap := w.heap.setIfInBounds b (.map (ents.push { key := .string ks, val := v, born := clock }) (clock + 1)) }, ?_, ⟨_, _, (MapKept.heap_set h1).1, ?_, ?_, ?_⟩, ⟨rfl, rfl, rfl, by simp, fun k _ hn => (MapKept.heap_set h1).2 k hn⟩, by simp⟩
  · simp only [Instr.mapUpdate, Sem.run_bind, run_underlying hu, Result.andThen_ok, MapKept.run_getObj_map h1, hck, g1, MapKept.run_setObj_map _ h1]
  · simp [h2]
  · simp [h3, h4, List.range_succ]
  · simp [h4]
theorem lw_mapUpdate {t e b : Nat} {z v : Value} {es : List (ByteArray × Value)} {ks : ByteArray} {x y u : Operand} {ty : TypeId} {ps : String} {af : Array Edge} (hM : MpT P t e z) (hx : ev n fr x = some (.map (some b))) (hy : ev n fr y = some (.string ks)) (hv : ev n fr u = some v)
    (hm : Mp w b es) (hnew : mget es ks = none) (k : ∀ w1, Mp w1 b (es ++ [(ks, v)]) → Ext (· = b) w w1 → w1.heap.size = w.heap.size → LW P ops Q rest n fr w1) :
    LW P ops Q ({ dst := none, op := .mapUpdate t x y u, type := ty, pos := ps, after := af, guard := none } :: rest) n fr w := by
  obtain ⟨w1, g1, g2, g3, g4⟩ := run_mapUpdate_new (P := P) (v := v) hM hm hnew
  exact lw_run_skip rfl rfl (w' := w1) (fun a hk => by simp [execOp, ev_sound hk hx, ev_sound hk hy, ev_sound hk hv, g1]) (k w1 g2 g3 g4)

/-! ### Ranging over such a map. -/
structure Itr (w : World) (b m : Nat) (len : Nat) (seen : List Nat) : Prop where
  is : ∃ c0, w.heap[b]? = some (.mapIter (some m) len ⟨seen⟩ c0) ∧ len ≤ c0
theorem Itr.ext {F : Nat → Prop} {w w' : World} {b m len : Nat} {seen : List Nat} (h : Itr w b m len seen) (hx : Ext F w w') (hn : ¬ F b) : Itr w' b m len seen := by
  obtain ⟨c0, h1, h2⟩ := h.is
  exact ⟨c0, (hx.blk b (Array.getElem?_eq_some_iff.1 h1).1 hn).trans h1, h2⟩
theorem Itr.ex {w w' : World} {b m len : Nat} {seen : List Nat} (h : Itr w b m len seen) (hx : Ex w w') : Itr w' b m len seen := h.ext hx fun f => f
theorem lw_range {d t e m : Nat} {z : Value} {es : List (ByteArray × Value)} {x : Operand} {ty : TypeId} {ps : String} {af : Array Edge} (hM : MpT P t e z) (hx : ev n fr x = some (.map (some m))) (hm : Mp w m es)
    (k : ∀ b w1, b = w.heap.size → Itr w1 b m es.length [] → Ex w w1 → w1.heap.size = w.heap.size + 1 → LW P ops Q rest n ((d, .pointer (some ⟨b, 0, none⟩)) :: fr) w1) :
    LW P ops Q ({ dst := some d, op := .range t x, type := ty, pos := ps, after := af, guard := none } :: rest) n fr w := by
  obtain ⟨kt, hu, _, _⟩ := hM
  obtain ⟨ents, clock, h1, h2, h3, h4⟩ := hm.is
  have := run_range_map (P := P) w t kt e m ents clock hu h1
  refine lw_run rfl rfl (w' := w.alloc (.mapIter (some m) clock #[] clock)) (fun a hk => by simp [execOp, ev_sound hk hx, this]) (k w.heap.size _ rfl ⟨clock, ?_, by omega⟩ (Ext.alloc _ _) (by simp))
  subst h4; exact heap_alloc_new w _
theorem run_next_mp {b m : Nat} {es : List (ByteArray × Value)} {seen : List Nat} (hm : Mp w m es) (hi : Itr w b m es.length seen) (hsn : ∀ j ∈ seen, j < es.length) :
    ((∀ j, j < es.length → j ∈ seen) ∧ (Instr.next (.pointer (some ⟨b, 0, none⟩)) false 0).run P w = .ok (.tuple #[.bool false]) w) ∨
    ∃ j x w1, es[j]? = some x ∧ j ∉ seen ∧ (Instr.next (.pointer (some ⟨b, 0, none⟩)) false 0).run P w = .ok (.tuple #[.bool true, .string x.1, x.2]) w1 ∧ Itr w1 b m es.length (seen ++ [j]) ∧ Ext (· = b) w w1 ∧ w1.heap.size = w.heap.size ∧
      (Instr.entry (.pointer (some ⟨b, 0, none⟩))).run P w1 = .ok (.tuple #[.string x.1, x.2]) w1 := by
  obtain ⟨ents, clock, h1, h2, h3, h4⟩ := hm.is
  obtain ⟨c0, hb, hc0⟩ := hi.is
  have hne : m ≠ b := by rintro rfl; rw [h1] at hb; cases hb
  have hborn : ∀ x ∈ ents.toList, x.born < es.length := fun x hx => by
    have : x.born ∈ ents.toList.map (·.born) := List.mem_map.2 ⟨x, hx, rfl⟩
    rw [h3] at this; simpa using this
  have hlen : ents.toList.length = es.length := by have := congrArg List.length h3; simpa using this
  have hat : ∀ x ∈ ents.toList, ents.toList[x.born]? = some x := fun x hx => by
    obtain ⟨j, hj, hjx⟩ := List.mem_iff_getElem.1 hx
    have : (ents.toList.map (·.born))[j]? = some x.born := by simp [List.getElem?_map, List.getElem?_eq_getElem hj, hjx]
    rw [h3, List.getElem?_range (by omega)] at this
    simp only [Option.some.injEq] at this
    rw [← this, List.getElem?_eq_getElem hj, hjx]
  simp only [Instr.next, getObj, Sem.run_bind, Sem.run, hb, h1, Result.andThen, next_test_false (⟨seen⟩ : Array Nat) ents es.length c0 hborn hc0, Bool.false_eq_true, if_false]
  have hmem : ∀ x ∈ (Array.filter (fun e => !(⟨seen⟩ : Array Nat).contains e.born) ents).toList, x ∈ ents.toList ∧ x.born ∉ seen := fun x hx => by
    simp only [Array.toList_filter, List.mem_filter] at hx
    exact ⟨hx.1, by simpa using hx.2⟩
  have hall : Array.filter (fun e => !(⟨seen⟩ : Array Nat).contains e.born) ents = #[] → ∀ j, j < es.length → j ∈ seen := fun h0 j hj => by
    rw [Array.filter_eq_empty_iff] at h0
    have hx : ents.toList[j]? = some (ents.toList[j]'(by omega)) := List.getElem?_eq_getElem _
    have hm1 : ents.toList[j]'(by omega) ∈ ents := by simp
    have := h0 _ hm1
    have e : (ents.toList[j]'(by omega)).born = j := by
      have : (ents.toList.map (·.born))[j]? = some (ents.toList[j]'(by omega)).born := by simp [List.getElem?_map, hx]
      rw [h3, List.getElem?_range hj] at this
      simpa using this.symm
    rw [e] at this
    simpa using this
  generalize Array.filter (fun e => !(⟨seen⟩ : Array Nat).contains e.born) ents = L at hmem hall ⊢
  have e1 : L.filter (fun x => decide (x.born < es.length)) = L := Array.filter_eq_self.2 (fun x hx => by simpa using hborn x (hmem x (by simpa using hx)).1)
  have e2 : L.filter (fun x => decide (x.born ≥ es.length)) = #[] := by
    rw [Array.filter_eq_empty_iff]
    intro x hx
    have := hborn x (hmem x (by simpa using hx)).1
    simp; omega
  simp only [e1, e2, Array.append_empty]
  by_cases h0 : L.size = 0
  · left
    have : L = #[] := Array.eq_empty_of_size_eq_zero h0
    refine ⟨hall this, ?_⟩
    subst this
    simp [choose, Sem.run, Question.forced]
  · right
    have hne' : L.isEmpty = false := by simp [Array.isEmpty, h0]
    simp only [hne', Bool.false_eq_true, if_false, Array.empty_append, Array.size_map]
    have hch : ∃ (j : Nat) (w1 : World), j < L.size ∧ w1.heap = w.heap ∧ Ex w w1 ∧ (choose (Question.mapNext L.size)).run P w = .ok j w1 := by
      by_cases hf : L.size ≤ 1
      · exact ⟨0, w, by omega, rfl, Ext.refl _ _, by simp [choose, Sem.run, Question.forced, hf]⟩
      · exact ⟨_, w.drew, Nat.mod_lt _ (by omega), rfl, Ext.drew w, by
          simp only [choose, Sem.run, Question.forced, decide_eq_true_eq, hf, if_false, Question.cut]
          rfl⟩
    obtain ⟨j, w1, hj, hheap, hex, hrun⟩ := hch
    obtain ⟨hm1, hns⟩ := hmem L[j] (by simp)
    have hat1 := hat L[j] hm1
    have hlt1 := hborn L[j] hm1
    have hx : (es.map (fun e => (Value.string e.1, e.2)))[L[j].born]? = some (L[j].key, L[j].val) := by
      rw [← h2]; simp [List.getElem?_map, hat1]
    simp only [List.getElem?_map] at hx
    obtain ⟨x, hx1, hx2⟩ := Option.map_eq_some_iff.1 hx
    simp only [Prod.mk.injEq] at hx2
    have hb1 : w1.heap[b]? = some (.mapIter (some m) es.length ⟨seen⟩ c0) := by rw [hheap]; exact hb
    have hset : ∀ o', (setObj b o').run P w1 = .ok () { w1 with heap := w1.heap.setIfInBounds b o' } := fun o' => by
      simp [setObj, Sem.run, hb1]
    have hnew := (MapKept.heap_set (o' := .mapIter (some m) es.length ((⟨seen⟩ : Array Nat).push L[j].born) clock) hb1)
    refine ⟨L[j].born, x, { w1 with heap := w1.heap.setIfInBounds b (.mapIter (some m) es.length ((⟨seen⟩ : Array Nat).push L[j].born) clock) }, hx1, hns, ?_, ⟨clock, ?_, by omega⟩, ?_, by simp [hheap], ?_⟩
    · simp only [hrun, Array.getElem?_map, Array.getElem?_eq_getElem hj, Option.map_some, Sem.run_bind, hset, Result.andThen, hx2.1, hx2.2]
      rfl
    · rw [hnew.1]; simp
    · exact (Ext.of_ex hex).trans ⟨rfl, rfl, rfl, by simp, fun k _ hn => hnew.2 k hn⟩
    · have hf : ents.find? (·.born == L[j].born) = some L[j] := by
        rw [← Array.find?_toList]
        exact find_born L[j] ents.toList (by rw [h3]; exact List.nodup_range) hm1
      have hm2 : (w1.heap.setIfInBounds b (.mapIter (some m) es.length ((⟨seen⟩ : Array Nat).push L[j].born) clock))[m]? = some (.map ents clock) := by rw [hnew.2 m hne, hheap, h1]
      simp only [Instr.entry, getObj, Sem.run_bind, Sem.run, hnew.1, hm2, Result.andThen, Array.back?_push, bne_self_eq_false, Bool.false_eq_true, if_false, hf, hx2.1, hx2.2]
      rfl
/-- The step of a range: over, or one entry that was not seen. -/
theorem lw_next {d b m : Nat} {es : List (ByteArray × Value)} {seen : List Nat} {x : Operand} {ty : TypeId} {ps : String} {af : Array Edge} (hx : ev n fr x = some (.pointer (some ⟨b, 0, none⟩))) (hm : Mp w m es) (hi : Itr w b m es.length seen) (hsn : ∀ j ∈ seen, j < es.length)
    (h0 : (∀ j, j < es.length → j ∈ seen) → LW P ops Q rest n ((d, .tuple #[.bool false]) :: fr) w)
    (h1 : ∀ j x w1, es[j]? = some x → j ∉ seen → Itr w1 b m es.length (seen ++ [j]) → Ext (· = b) w w1 → w1.heap.size = w.heap.size → (Instr.entry (.pointer (some ⟨b, 0, none⟩))).run P w1 = .ok (.tuple #[.string x.1, x.2]) w1 →
      LW P ops Q rest n ((d, .tuple #[.bool true, .string x.1, x.2]) :: fr) w1) :
    LW P ops Q ({ dst := some d, op := .next x false, type := ty, pos := ps, after := af, guard := none } :: rest) n fr w := by
  rcases run_next_mp (P := P) hm hi hsn with ⟨g0, g1⟩ | ⟨j, x', w1, g1, g2, g3, g4, g5, g6, g7⟩
  · exact lw_run rfl rfl (fun a hk => by show ((Instr.next (a.eval x) false 0 >>= fun v => pure (Next.value v)) : Sem Next).run P w = _; rw [ev_sound hk hx, Sem.run_bind, g1]; rfl) (h0 g0)
  · exact lw_run rfl rfl (fun a hk => by show ((Instr.next (a.eval x) false 0 >>= fun v => pure (Next.value v)) : Sem Next).run P w = _; rw [ev_sound hk hx, Sem.run_bind, g3]; rfl) (h1 j x' w1 g1 g2 g4 g5 g6 g7)
theorem lw_entry {d b : Nat} {v : Value} {x : Operand} {ty : TypeId} {ps : String} {af : Array Edge} (hx : ev n fr x = some (.pointer (some ⟨b, 0, none⟩))) (he : (Instr.entry (.pointer (some ⟨b, 0, none⟩))).run P w = .ok v w)
    (k : LW P ops Q rest n ((d, v) :: fr) w) : LW P ops Q ({ dst := some d, op := .entry x, type := ty, pos := ps, after := af, guard := none } :: rest) n fr w :=
  lw_run rfl rfl (fun a hk => by simp [execOp, ev_sound hk hx, he]) k

/-! ### Held against nil; conversions; cuts. -/
theorem equalIn_sl (d : Nat) {t e l c : Nat} {p : Option Addr} (hu : P.underlying t = some (.slice e)) : (Op.equalIn (d + 1) t (.slice p l c) (.slice none 0 0)).run P w = .ok p.isNone w := by
  cases p <;> simp [Op.equalIn, run_underlying hu]
theorem equalIn_ptr (d : Nat) {t e : Nat} {p : Option Addr} (hu : P.underlying t = some (.pointer e)) : (Op.equalIn (d + 1) t (.pointer p) (.pointer none)).run P w = .ok p.isNone w := by
  cases p <;> simp [Op.equalIn, run_underlying hu]
theorem lw_eq_slice_nil (hT : TabOk P T) {d t size l c : Nat} {p : Option Addr} {x : Operand} {t' : TypeId} {ty : TypeId} {ps : String} {af : Array Edge} (hx : ev n fr x = some (.slice p l c)) (ht : look T.sls t = some size)
    (k : LW P ops Q rest n ((d, .bool p.isNone) :: fr) w) :
    LW P ops Q ({ dst := some d, op := .binOp .eql t x (.const (.slice none 0 0)) t', type := ty, pos := ps, after := af, guard := none } :: rest) n fr w := by
  obtain ⟨e, i, hu, _⟩ := hT.sl ht
  refine lw_run rfl rfl (fun a hk => ?_) k
  have hq : (Op.equal t (.slice p l c) (.slice none 0 0)).run P w = .ok p.isNone w := equalIn_sl 9999 hu
  have e1 : a.eval (.const (.slice none 0 0)) = .slice none 0 0 := rfl
  simp only [execOp, ev_sound hk hx, e1]
  simp [eqGuard, binOp, hq]
theorem lw_eq_ptr_nil (hT : TabOk P T) {d t : Nat} {p : Option Addr} {x : Operand} {t' : TypeId} {ty : TypeId} {ps : String} {af : Array Edge} (hx : ev n fr x = some (.pointer p)) (ht : memN T.ptrs t = true)
    (k : LW P ops Q rest n ((d, .bool p.isNone) :: fr) w) :
    LW P ops Q ({ dst := some d, op := .binOp .eql t x (.const (.pointer none)) t', type := ty, pos := ps, after := af, guard := none } :: rest) n fr w := by
  obtain ⟨e, hu⟩ := hT.ptr ht
  refine lw_run rfl rfl (fun a hk => ?_) k
  have hq : (Op.equal t (.pointer p) (.pointer none)).run P w = .ok p.isNone w := equalIn_ptr 9999 hu
  have e1 : a.eval (.const (.pointer none)) = .pointer none := rfl
  simp only [execOp, ev_sound hk hx, e1]
  simp [eqGuard, binOp, hq]
theorem lw_neq_ptr_nil (hT : TabOk P T) {d t : Nat} {p : Option Addr} {x : Operand} {t' : TypeId} {ty : TypeId} {ps : String} {af : Array Edge} (hx : ev n fr x = some (.pointer p)) (ht : memN T.ptrs t = true)
    (k : LW P ops Q rest n ((d, .bool (!p.isNone)) :: fr) w) :
    LW P ops Q ({ dst := some d, op := .binOp .neq t x (.const (.pointer none)) t', type := ty, pos := ps, after := af, guard := none } :: rest) n fr w := by
  obtain ⟨e, hu⟩ := hT.ptr ht
  refine lw_run rfl rfl (fun a hk => ?_) k
  have hq : (Op.equal t (.pointer p) (.pointer none)).run P w = .ok p.isNone w := equalIn_ptr 9999 hu
  have e1 : a.eval (.const (.pointer none)) = .pointer none := rfl
  simp only [execOp, ev_sound hk hx, e1]
  simp [eqGuard, binOp, hq]
theorem lw_eqs_none (hT : TabOk P T) {d t size l c : Nat} {x : Operand} {t' : TypeId} {ty : TypeId} {ps : String} {af : Array Edge} (hx : ev n fr x = some (.slice none l c)) (ht : look T.sls t = some size)
    (k : LW P ops Q rest n ((d, .bool true) :: fr) w) :
    LW P ops Q ({ dst := some d, op := .binOp .eql t x (.const (.slice none 0 0)) t', type := ty, pos := ps, after := af, guard := none } :: rest) n fr w := lw_eq_slice_nil hT hx ht k
theorem lw_eqs_some (hT : TabOk P T) {d t size l c : Nat} {p : Addr} {x : Operand} {t' : TypeId} {ty : TypeId} {ps : String} {af : Array Edge} (hx : ev n fr x = some (.slice (some p) l c)) (ht : look T.sls t = some size)
    (k : LW P ops Q rest n ((d, .bool false) :: fr) w) :
    LW P ops Q ({ dst := some d, op := .binOp .eql t x (.const (.slice none 0 0)) t', type := ty, pos := ps, after := af, guard := none } :: rest) n fr w := lw_eq_slice_nil hT hx ht k
theorem lw_eqp_none (hT : TabOk P T) {d t : Nat} {x : Operand} {t' : TypeId} {ty : TypeId} {ps : String} {af : Array Edge} (hx : ev n fr x = some (.pointer none)) (ht : memN T.ptrs t = true)
    (k : LW P ops Q rest n ((d, .bool true) :: fr) w) :
    LW P ops Q ({ dst := some d, op := .binOp .eql t x (.const (.pointer none)) t', type := ty, pos := ps, after := af, guard := none } :: rest) n fr w := lw_eq_ptr_nil hT hx ht k
theorem lw_eqp_some (hT : TabOk P T) {d t : Nat} {p : Addr} {x : Operand} {t' : TypeId} {ty : TypeId} {ps : String} {af : Array Edge} (hx : ev n fr x = some (.pointer (some p))) (ht : memN T.ptrs t = true)
    (k : LW P ops Q rest n ((d, .bool false) :: fr) w) :
    LW P ops Q ({ dst := some d, op := .binOp .eql t x (.const (.pointer none)) t', type := ty, pos := ps, after := af, guard := none } :: rest) n fr w := lw_eq_ptr_nil hT hx ht k
theorem lw_nep_none (hT : TabOk P T) {d t : Nat} {x : Operand} {t' : TypeId} {ty : TypeId} {ps : String} {af : Array Edge} (hx : ev n fr x = some (.pointer none)) (ht : memN T.ptrs t = true)
    (k : LW P ops Q rest n ((d, .bool false) :: fr) w) :
    LW P ops Q ({ dst := some d, op := .binOp .neq t x (.const (.pointer none)) t', type := ty, pos := ps, after := af, guard := none } :: rest) n fr w := lw_neq_ptr_nil hT hx ht k
theorem lw_nep_some (hT : TabOk P T) {d t : Nat} {p : Addr} {x : Operand} {t' : TypeId} {ty : TypeId} {ps : String} {af : Array Edge} (hx : ev n fr x = some (.pointer (some p))) (ht : memN T.ptrs t = true)
    (k : LW P ops Q rest n ((d, .bool true) :: fr) w) :
    LW P ops Q ({ dst := some d, op := .binOp .neq t x (.const (.pointer none)) t', type := ty, pos := ps, after := af, guard := none } :: rest) n fr w := lw_neq_ptr_nil hT hx ht k
theorem lw_conv_int (hT : TabOk P T) {d s t : Nat} {q q' : IntKind} {i : Int} {x : Operand} {ty : TypeId} {ps : String} {af : Array Edge} (hx : ev n fr x = some (.int q i)) (hs : look T.ints s = some q) (ht : look T.ints t = some q') (hw : q'.wrap i = i)
    (k : LW P ops Q rest n ((d, .int q' i) :: fr) w) :
    LW P ops Q ({ dst := some d, op := .convert s t x, type := ty, pos := ps, after := af, guard := none } :: rest) n fr w := by
  refine lw_run rfl rfl (fun a hk => ?_) k
  simp [execOp, ev_sound hk hx, convert, run_underlying (hT.int hs), run_underlying (hT.int ht), Conv.intToInt, hw]
theorem u8_in {i : Int} (hl : 0 ≤ i) (hu : i ≤ 255) : IntKind.u8.wrap i = i := by
  simp only [IntKind.wrap, IntKind.bits, IntKind.signed]
  simp; omega
theorem lw_sub8 {d : Nat} {x y : Operand} {t t' : TypeId} {ty : TypeId} {ps : String} {af : Array Edge} {a b : Int} (hx : ev n fr x = some (.int .u8 a)) (hy : ev n fr y = some (.int .u8 b))
    (hl : 0 ≤ a - b) (hu : a - b ≤ 255) (k : LW P ops Q rest n ((d, .int .u8 (a - b)) :: fr) w) :
    LW P ops Q ({ dst := some d, op := .binOp .sub t x y t', type := ty, pos := ps, after := af, guard := none } :: rest) n fr w :=
  lw_run rfl rfl (fun a' hk => by simp [execOp, ev_sound hk hx, ev_sound hk hy, eqGuard, binOp, Op.intArith, u8_in hl hu]) k
theorem lw_conv64 (hT : TabOk P T) {d s t : Nat} {q : IntKind} {i : Int} {x : Operand} {ty : TypeId} {ps : String} {af : Array Edge} (hx : ev n fr x = some (.int q i)) (hs : look T.ints s = some q) (ht : look T.ints t = some .i64) (hl : -9223372036854775808 ≤ i) (hu : i ≤ 9223372036854775807)
    (k : LW P ops Q rest n ((d, .int .i64 i) :: fr) w) :
    LW P ops Q ({ dst := some d, op := .convert s t x, type := ty, pos := ps, after := af, guard := none } :: rest) n fr w :=
  lw_conv_int hT hx hs ht (IntWalk.i64_in _ ⟨hl, hu⟩) k
theorem lw_mul {d : Nat} {x y : Operand} {t t' : TypeId} {ty : TypeId} {ps : String} {af : Array Edge} {a b : Int} (hx : ev n fr x = some (.int .i64 a)) (hy : ev n fr y = some (.int .i64 b))
    (hl : -9223372036854775808 ≤ a * b) (hu : a * b ≤ 9223372036854775807) (k : LW P ops Q rest n ((d, .int .i64 (a * b)) :: fr) w) :
    LW P ops Q ({ dst := some d, op := .binOp .mul t x y t', type := ty, pos := ps, after := af, guard := none } :: rest) n fr w :=
  lw_run rfl rfl (fun a' hk => by simp [execOp, ev_sound hk hx, ev_sound hk hy, eqGuard, binOp, Op.intArith]; exact IntWalk.i64_in _ ⟨hl, hu⟩) k
theorem lw_rem {d : Nat} {x y : Operand} {t t' : TypeId} {ty : TypeId} {ps : String} {af : Array Edge} {a b : Int} (hx : ev n fr x = some (.int .i64 a)) (hy : ev n fr y = some (.int .i64 b)) (hb : b ≠ 0)
    (k : LW P ops Q rest n ((d, .int .i64 (a.tmod b)) :: fr) w) :
    LW P ops Q ({ dst := some d, op := .binOp .rem t x y t', type := ty, pos := ps, after := af, guard := none } :: rest) n fr w :=
  lw_run rfl rfl (fun a' hk => by simp [execOp, ev_sound hk hx, ev_sound hk hy, eqGuard, binOp, Op.intDiv, hb]) k
theorem lw_quo {d : Nat} {x y : Operand} {t t' : TypeId} {ty : TypeId} {ps : String} {af : Array Edge} {a b : Int} (hx : ev n fr x = some (.int .i64 a)) (hy : ev n fr y = some (.int .i64 b)) (hb : b ≠ 0)
    (hl : -9223372036854775808 ≤ a.tdiv b) (hu : a.tdiv b ≤ 9223372036854775807) (k : LW P ops Q rest n ((d, .int .i64 (a.tdiv b)) :: fr) w) :
    LW P ops Q ({ dst := some d, op := .binOp .quo t x y t', type := ty, pos := ps, after := af, guard := none } :: rest) n fr w :=
  lw_run rfl rfl (fun a' hk => by simp [execOp, ev_sound hk hx, ev_sound hk hy, eqGuard, binOp, Op.intDiv, hb]; exact IntWalk.i64_in _ ⟨hl, hu⟩) k

def optInt (n : Nat) (fr : Fr) (dflt : Nat) : Option Operand → Option Int
  | none => some (dflt : Int)
  | some x => match ev n fr x with
    | some (.int _ i) => some i
    | _ => none
theorem run_sliceBound_ok {k : IntKind} {i : Int} {y : Nat} {c : BoundsCode} (j : Nat) (hi : i = (j : Int)) (hy : j ≤ y) : (Instr.sliceBound (.int k i) y c).run P w = .ok j w := by
  subst hi
  simp [Instr.sliceBound, asIntOf, hy]
theorem run_bounds {isS : Bool} {len cap : Nat} {lo hi : Option Value} {a b : Nat} (hlo : (lo = none ∧ a = 0) ∨ ∃ k, lo = some (.int k (a : Int))) (hhi : (hi = none ∧ b = len) ∨ ∃ k, hi = some (.int k (b : Int))) (hab : a ≤ b) (hb : b ≤ cap) :
    (Instr.sliceBounds isS len cap lo hi none).run P w = .ok (a, b, cap) w := by
  have h1 := fun k c => run_sliceBound_ok (P := P) (w := w) (k := k) (c := c) (y := b) a rfl hab
  have h2 := fun k c => run_sliceBound_ok (P := P) (w := w) (k := k) (c := c) (y := cap) b rfl hb
  rcases hlo with ⟨rfl, rfl⟩ | ⟨k, rfl⟩ <;> rcases hhi with ⟨rfl, rfl⟩ | ⟨k', rfl⟩ <;>
    simp only [Instr.sliceBounds, Sem.run_bind, Sem.run_pure, Result.andThen_ok, h1, h2]
theorem optInt_of {n : Nat} {fr : Fr} {act : Act} (hk : Kn n fr act) {dflt : Nat} {x : Option Operand} {l : Int} (h : optInt n fr dflt x = some l) {a : Nat} (ha : l = (a : Int)) : (x.map act.eval = none ∧ a = dflt) ∨ ∃ k, x.map act.eval = some (.int k (a : Int)) := by
  subst ha
  cases x with
  | none => simp only [optInt, Option.some.injEq] at h; exact .inl ⟨rfl, by omega⟩
  | some z =>
    simp only [optInt] at h
    split at h
    · rename_i q i hz
      simp only [Option.some.injEq] at h
      subst h
      exact .inr ⟨q, by simp [ev_sound hk hz]⟩
    · cases h
theorem lw_slice_str (hT : TabOk P T) {d t : Nat} {x : Operand} {lo hi : Option Operand} {ty : TypeId} {ps : String} {af : Array Edge} {s : ByteArray} {l h : Int} (hx : ev n fr x = some (.string s)) (ht : memN T.strs t = true)
    (hlo : optInt n fr 0 lo = some l) (hhi : optInt n fr s.size hi = some h) (a b : Nat) (ha : l = (a : Int)) (hb : h = (b : Int)) (hab : a ≤ b) (hbs : b ≤ s.size) (k : LW P ops Q rest n ((d, .string (s.extract a b)) :: fr) w) :
    LW P ops Q ({ dst := some d, op := .slice t x lo hi none, type := ty, pos := ps, after := af, guard := none } :: rest) n fr w := by
  refine lw_run rfl rfl (fun act hk => ?_) k
  have hbd := run_bounds (P := P) (w := w) (isS := false) (len := s.size) (cap := s.size) (optInt_of hk hlo ha) (optInt_of hk hhi hb) hab hbs
  simp only [execOp, Instr.sliceAt, Sem.run_bind, run_underlying (hT.str ht), Result.andThen_ok, Instr.slice, ev_sound hk hx, Option.map_none, Option.isSome_none, Bool.false_eq_true, if_false, hbd, Sem.run_pure]
theorem lw_slice_sl (hT : TabOk P T) {d t size : Nat} {x : Operand} {lo hi : Option Operand} {ty : TypeId} {ps : String} {af : Array Edge} {p : Option Addr} {len cap : Nat} {l h : Int} (hx : ev n fr x = some (.slice p len cap)) (ht : look T.sls t = some size)
    (hlo : optInt n fr 0 lo = some l) (hhi : optInt n fr len hi = some h) (a b : Nat) (ha : l = (a : Int)) (hb : h = (b : Int)) (hab : a ≤ b) (hbs : b ≤ cap)
    (k : LW P ops Q rest n ((d, .slice (if cap = a then p else p.map (·.add (a * size))) (b - a) (cap - a)) :: fr) w) :
    LW P ops Q ({ dst := some d, op := .slice t x lo hi none, type := ty, pos := ps, after := af, guard := none } :: rest) n fr w := by
  obtain ⟨e, inf, hu, hin, hs⟩ := hT.sl ht
  refine lw_run rfl rfl (fun act hk => ?_) k
  have hbd := run_bounds (P := P) (w := w) (isS := true) (len := len) (cap := cap) (optInt_of hk hlo ha) (optInt_of hk hhi hb) hab hbs
  simp only [execOp, Instr.sliceAt, Sem.run_bind, run_underlying hu, Result.andThen_ok, Instr.slice, ev_sound hk hx, Option.map_none, hbd, Sem.run_pure, sizeOf, typeInfo, run_program, hin, hs]
/-- The whole of an array behind a pointer. -/
theorem lw_slice_arr (hT : TabOk P T) {d t size m : Nat} {x : Operand} {ty : TypeId} {ps : String} {af : Array Edge} {b o : Nat} (hx : ev n fr x = some (.pointer (some ⟨b, o, none⟩))) (ht : look T.arrs t = some (m, size))
    (k : LW P ops Q rest n ((d, .slice (some ⟨b, o, none⟩) m m) :: fr) w) :
    LW P ops Q ({ dst := some d, op := .slice t x none none none, type := ty, pos := ps, after := af, guard := none } :: rest) n fr w := by
  obtain ⟨e, inf, hu, hin, hs⟩ := hT.arr ht
  refine lw_run rfl rfl (fun act hk => ?_) k
  have hbd := run_bounds (P := P) (w := w) (isS := false) (len := m) (cap := m) (lo := none) (hi := none) (a := 0) (b := m) (.inl ⟨rfl, rfl⟩) (.inl ⟨rfl, rfl⟩) (Nat.zero_le _) (Nat.le_refl _)
  simp only [execOp, Instr.sliceAt, Sem.run_bind, run_underlying hu, Result.andThen_ok, ev_sound hk hx, Instr.sureAddr, Option.map_none, hbd, Sem.run_pure, sizeOf, typeInfo, run_program, hin, hs, Nat.zero_mul, addr_add, Nat.add_zero, Nat.sub_zero, ite_self]
end
end Go.SK
