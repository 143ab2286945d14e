/- Contracts of package supercargoref23, seventh part: lists of papers that are written. -/
import Derived.Test.YtfbjpfgglgffgaaGreatFf
set_option linter.unusedVariables false
set_option linter.unusedSimpArgs false
set_option linter.unusedSectionVars false
set_option linter.unnecessarySimpa false
namespace Go.Proofs.YtfbjpfgglgffgaaGreat
open Go Go.SK

theorem _root_.Go.SK.Sl.lt {A : Nat → Prop} {w : World} {v : Value} {size : Nat} {rows : List (List Value)} (h : Sl A w v size rows) (hs : 0 < size) : Sl (fun b => A b ∧ b < w.heap.size) w v size rows := by
  obtain ⟨a, cap, hv, hz, hr⟩ := h.is
  refine ⟨⟨a, cap, hv, hz, fun hne => ?_⟩, h.small⟩
  obtain ⟨b, o, ha, hA, hrd⟩ := hr hne
  refine ⟨b, o, ha, ⟨hA, ?_⟩, hrd⟩
  have h0 : 0 < rows.length := by cases rows with
    | nil => exact absurd rfl hne
    | cons _ _ => simp
  obtain ⟨hl, hrd0⟩ := hrd 0 rows[0] (List.getElem?_eq_getElem h0)
  have h1 : 0 < rows[0].length := by omega
  exact World.block_lt_of_cell? w _ (hrd0 0 rows[0][0] (List.getElem?_eq_getElem h1))
theorem FEnt.lt {A : Nat → Prop} {w : World} {x : EntD} {g : FG} (h : FEnt A w x g) : FEnt (fun b => A b ∧ b < w.heap.size) w x g :=
  ⟨h.boxes.lt (by decide), h.parents.lt (by decide), h.three, h.three', h.papers.lt (by decide), fun i q vc h1 h2 => (h.chains i q vc h1 h2).lt (by decide)⟩
theorem FRep.lt {A : Nat → Prop} {w : World} {vL : Value} {l : List EntD} {gs : List FG} (h : FRep A w vL l gs) : FRep (fun b => A b ∧ b < w.heap.size) w vL l gs :=
  ⟨h.len, h.cap, h.sl.lt (by decide), fun i x g h1 h2 => (h.ents i x g h1 h2).lt⟩

def rowsOf (ps : List PapD) (vcs : List Value) : List (List Value) := (ps.zip vcs).map papRow
theorem set_row {ps : List PapD} {vcs tail : List Value} (h1 : ps.length = 3) (h2 : vcs.length = 3) {k : Nat} (hk : k < 3) (q : PapD) (vc : Value) :
    setMany ((rowsOf ps vcs).flatten ++ tail) (k * 3) [.int .i64 q.state, .string q.holder, vc] = (rowsOf (ps.set k q) (vcs.set k vc)).flatten ++ tail := by
  obtain ⟨a, b, c, rfl⟩ := three_cases h1
  obtain ⟨u, v, y, rfl⟩ := three_cases h2
  match k, hk with
  | 0, _ => rfl
  | 1, _ => rfl
  | 2, _ => rfl
theorem set_st {ps : List PapD} {vcs tail : List Value} (h1 : ps.length = 3) (h2 : vcs.length = 3) {k : Nat} (hk : k < 3) (s : Int) :
    ((rowsOf ps vcs).flatten ++ tail).set (k * 3) (.int .i64 s) = (rowsOf (onIx [k] (stateP s) ps) vcs).flatten ++ tail := by
  obtain ⟨a, b, c, rfl⟩ := three_cases h1
  obtain ⟨u, v, y, rfl⟩ := three_cases h2
  match k, hk with
  | 0, _ => rfl
  | 1, _ => rfl
  | 2, _ => rfl
theorem row_take {ps : List PapD} {vcs tail : List Value} (h1 : ps.length = 3) (h2 : vcs.length = 3) {k : Nat} (hk : k < 3) {q : PapD} {vc : Value} (hq : ps[k]? = some q) (hv : vcs[k]? = some vc) :
    (((rowsOf ps vcs).flatten ++ tail).drop (k * 3)).take 3 = [.int .i64 q.state, .string q.holder, vc] := by
  obtain ⟨a, b, c, rfl⟩ := three_cases h1
  obtain ⟨u, v, y, rfl⟩ := three_cases h2
  match k, hk with
  | 0, _ => simp at hq hv; subst hq hv; rfl
  | 1, _ => simp at hq hv; subst hq hv; rfl
  | 2, _ => simp at hq hv; subst hq hv; rfl
theorem rows_len {ps : List PapD} {vcs tail : List Value} (h1 : ps.length = 3) (h2 : vcs.length = 3) : ((rowsOf ps vcs).flatten ++ tail).length = 9 + tail.length := by
  obtain ⟨a, b, c, rfl⟩ := three_cases h1
  obtain ⟨u, v, y, rfl⟩ := three_cases h2
  simp [rowsOf, papRow]; omega
theorem onIx_set {ps : List PapD} (h1 : ps.length = 3) {k : Nat} (hk : k < 3) {q : PapD} (hq : ps[k]? = some q) (f : PapD → PapD) : onIx [k] f ps = ps.set k (f q) := by
  obtain ⟨a, b, c, rfl⟩ := three_cases h1
  match k, hk with
  | 0, _ => simp at hq; subst hq; rfl
  | 1, _ => simp at hq; subst hq; rfl
  | 2, _ => simp at hq; subst hq; rfl
/-- What an act makes of the originals it means. -/
def fD (a : ActD) : PapD → PapD := if a.kind = 1 then endorseP a.by_ a.to_ a.day else if a.kind = 3 then stateP 3 else if a.kind = 4 then stateP 0 else id
/-- Papers in a block of their own. -/
structure PapsAt (A : Nat → Prop) (w : World) (bq : Nat) (ps : List PapD) (vcs tail : List Value) : Prop where
  three : ps.length = 3
  three' : vcs.length = 3
  blk : Blk w bq ((rowsOf ps vcs).flatten ++ tail) 114
  chains : ∀ (i : Nat) (q : PapD) (vc : Value), ps[i]? = some q → vcs[i]? = some vc → SlE A w vc q.chain
theorem PapsAt.sl {A : Nat → Prop} {w : World} {bq cap : Nat} {ps : List PapD} {vcs tail : List Value} (h : PapsAt A w bq ps vcs tail) {B : Nat → Prop} (hB : B bq) : Sl B w (.slice (some ⟨bq, 0, none⟩) 3 cap) 3 ((ps.zip vcs).map papRow) := by
  have h1 : ((ps.zip vcs).map papRow).length = 3 := by simp [h.three, h.three']
  have := Sl.of_rd (A := B) (w := w) (b := bq) (o := 0) (cap := cap) (size := 3) (rows := (ps.zip vcs).map papRow) hB (by intro r hr; obtain ⟨x, _, rfl⟩ := List.mem_map.1 hr; rfl) (by
    have := h.blk.rd 0 9
    rw [List.drop_zero] at this
    have e : ((rowsOf ps vcs).flatten ++ tail).take 9 = ((ps.zip vcs).map papRow).flatten := by
      obtain ⟨a, b, c, rfl⟩ := three_cases h.three
      obtain ⟨u, v, y, rfl⟩ := three_cases h.three'
      rfl
    rwa [e] at this) (by rw [h1]; simp [maxLen])
  rwa [h1] at this
/-! ### Cuts of a slice, and a list with one entry changed. -/
theorem _root_.Go.SK.Sl.cutTo {A : Nat → Prop} {w : World} {b o n c size i : Nat} {rows : List (List Value)} (h : Sl A w (.slice (some ⟨b, o, none⟩) n c) size rows) (hi : i ≤ rows.length) :
    Sl A w (.slice (if c = 0 then some ⟨b, o, none⟩ else (some (⟨b, o, none⟩ : Addr)).map (·.add (0 * size))) (i - 0) (c - 0)) size (rows.take i) := by
  have e : (if c = 0 then some (⟨b, o, none⟩ : Addr) else (some (⟨b, o, none⟩ : Addr)).map (·.add (0 * size))) = some ⟨b, o, none⟩ := by split <;> simp [addr_add]
  rw [e]
  obtain ⟨a, cap, hv, hz, hr⟩ := h.is
  have hl : (rows.take i).length = i - 0 := by simp; omega
  refine ⟨⟨some ⟨b, o, none⟩, c - 0, by rw [hl], (fun h => by cases h), fun hne => ?_⟩, by rw [hl]; have := h.small; omega⟩
  have hne' : rows ≠ [] := by rintro rfl; simp at hne
  obtain ⟨b', o', ha, hA, hrd⟩ := hr hne'
  simp only [Value.slice.injEq] at hv
  have e2 := hv.1.trans ha
  simp only [Option.some.injEq, Addr.mk.injEq, and_true] at e2
  obtain ⟨rfl, rfl⟩ := e2
  refine ⟨b, o, rfl, hA, fun j row hj => hrd j row ?_⟩
  rw [List.getElem?_take] at hj
  split at hj
  · exact hj
  · cases hj
theorem _root_.Go.SK.Sl.cutFrom {A : Nat → Prop} {w : World} {b o n c size i m : Nat} {rows : List (List Value)} (h : Sl A w (.slice (some ⟨b, o, none⟩) n c) size rows) (hi : i ≤ rows.length) (hm : m = rows.length - i) (hc : n ≤ c) :
    Sl A w (.slice (if c = i then some ⟨b, o, none⟩ else (some (⟨b, o, none⟩ : Addr)).map (·.add (i * size))) m (c - i)) size (rows.drop i) := by
  obtain ⟨a, cap, hv, hz, hr⟩ := h.is
  simp only [Value.slice.injEq] at hv
  have hl : (rows.drop i).length = m := by simp; omega
  refine ⟨⟨_, c - i, by rw [hl], (fun h => by split at h <;> cases h), fun hne => ?_⟩, by rw [hl]; have := h.small; omega⟩
  have hlt : i < rows.length := by
    rcases Nat.lt_or_ge i rows.length with h | h
    · exact h
    · exact absurd (List.drop_eq_nil_of_le h) hne
  have hne' : rows ≠ [] := by rintro rfl; simp at hlt
  obtain ⟨b', o', ha, hA, hrd⟩ := hr hne'
  have e2 := hv.1.trans ha
  simp only [Option.some.injEq, Addr.mk.injEq, and_true] at e2
  obtain ⟨rfl, rfl⟩ := e2
  rw [if_neg (by omega)]
  refine ⟨b, o + i * size, by simp [addr_add], hA, fun j row hj => ?_⟩
  rw [List.getElem?_drop] at hj
  obtain ⟨h1, h2⟩ := hrd (i + j) row hj
  refine ⟨h1, ?_⟩
  rwa [Nat.add_mul, ← Nat.add_assoc] at h2
theorem zip_set {α β : Type} : ∀ (l : List α) (r : List β) (i : Nat) (x : α) (y : β), (l.set i x).zip (r.set i y) = (l.zip r).set i (x, y)
  | [], _, _, _, _ => by simp
  | _ :: _, [], i, _, _ => by cases i <;> simp
  | a :: l, b :: r, 0, _, _ => by simp
  | a :: l, b :: r, i + 1, x, y => by simp [zip_set l r i x y]
theorem FRep.of_own {A : Nat → Prop} {w : World} {vL : Value} {l : List EntD} {gs : List FG} (hl : l.length = gs.length) {base te : Nat} (ho : w.ownsRow base te 11 vL l.length ((l.zip gs).map entF).flatten) (hA : ∀ b, vL.ownBlock = some b → A b)
    (he : ∀ (i : Nat) (x : EntD) (g : FG), l[i]? = some x → gs[i]? = some g → FEnt A w x g) : FRep A w vL l gs := by
  refine ⟨hl, own_cap ho, own_sl (base := base) (e := te) (rows := (l.zip gs).map entF) ?_ (fun r hr => FRep.len11 r hr) hA, he⟩
  have : ((l.zip gs).map entF).length = l.length := by simp [hl]
  rw [this]; exact ho
/-- One entry changed: three parts, one behind the other. -/
theorem FRep.changed {A : Nat → Prop} {w : World} {vL : Value} {l : List EntD} {gs : List FG} (hl : l.length = gs.length) {i : Nat} (hi : i < l.length) {x : EntD} {g : FG} {base te : Nat}
    (ho : w.ownsRow base te 11 vL (i + 1 + (l.length - (i + 1))) (((((l.zip gs).map entF).take i).flatten ++ entF (x, g)) ++ (((l.zip gs).map entF).drop (i + 1)).flatten)) (hA : ∀ b, vL.ownBlock = some b → A b)
    (hold : ∀ (j : Nat) (y : EntD) (u : FG), j ≠ i → l[j]? = some y → gs[j]? = some u → FEnt A w y u) (hx : FEnt A w x g) : FRep A w vL (l.set i x) (gs.set i g) := by
  refine FRep.of_own (by simp [hl]) (base := base) (te := te) ?_ hA ?_
  · rw [zip_set, List.map_set, List.length_set]
    have hz : i < ((l.zip gs).map entF).length := by simp [← hl]; exact hi
    rw [List.set_eq_take_append_cons_drop, if_pos hz]
    have e : i + 1 + (l.length - (i + 1)) = l.length := by omega
    rw [e] at ho
    simpa using ho
  · intro j y u hy hu
    by_cases e : i = j
    · subst e
      rw [List.getElem?_set_self hi] at hy
      rw [List.getElem?_set_self (by rw [← hl]; exact hi)] at hu
      cases hy; cases hu; exact hx
    · rw [List.getElem?_set_ne e] at hy hu
      exact hold j y u (fun h => e h.symm) hy hu

/-! ### What an act makes of an entry, in the order in which the document does it. -/
def midP (a : ActD) (ps : List PapD) : List PapD := if a.kind = 2 ∨ a.kind = 5 then ps.map (stateP 2) else ps
def midS (a : ActD) (st : Int) : Int := if a.kind = 2 ∨ a.kind = 5 then 4 else st
def finP (a : ActD) (ps : List PapD) : List PapD := if a.kind = 2 then onIx (whichN a) (stateP 1) ps else ps
def finS (a : ActD) (st : Int) : Int := if a.kind = 2 then 1 else st
theorem onIx_id (l : List Nat) (ps : List PapD) : onIx l id ps = ps := by
  apply List.ext_getElem?
  intro i
  cases h : ps[i]? with
  | none =>
    rw [List.getElem?_eq_none_iff] at h ⊢
    rw [onIx_len]; exact h
  | some q => rw [onIx_get h]; simp
theorem after_eq {x : EntD} {a : ActD} (hk : 1 ≤ a.kind ∧ a.kind ≤ 5) (eI : whichN a = ixs a.ask.index) (eN : whichN a ≠ []) :
    x.after a = { x with state := finS a (midS a x.state), ps := finP a (midP a (onIx (whichN a) (fD a) x.ps)) } := by
  have hks : a.kind = 1 ∨ a.kind = 2 ∨ a.kind = 3 ∨ a.kind = 4 ∨ a.kind = 5 := by omega
  have one : ixs (oneI a.index) ≠ [] → ixs (oneI a.index) = ixs a.index := fun h => by obtain ⟨k, _, h1, h2⟩ := ixs_one h; rw [h1, h2]
  rw [eI] at eN ⊢
  rcases hks with h | h | h | h | h
  · simp [EntD.after, finS, midS, finP, midP, fD, h, ActD.ask]
  · have e : whichN a = ixs a.index := by rw [eI]; simp only [ActD.ask, h] at eN ⊢; exact one eN
    simp [EntD.after, finS, midS, finP, midP, fD, h, onIx_id, e]
  · simp only [ActD.ask, h] at eN ⊢
    simp [EntD.after, finS, midS, finP, midP, fD, h, one (by simpa using eN)]
  · simp only [ActD.ask, h] at eN ⊢
    simp [EntD.after, finS, midS, finP, midP, fD, h, one (by simpa using eN)]
  · simp [EntD.after, finS, midS, finP, midP, fD, h, onIx_id]
theorem upd_set' {r : RegD} {n : ByteArray} {i : Nat} {x : EntD} (hl : r.l[i]? = some x) (hn : n = x.bill.number) (hN : r.Nd) (f : EntD → EntD) : (r.upd n f).l = r.l.set i (f x) := by
  apply List.ext_getElem?
  intro j
  simp only [RegD.upd, List.getElem?_map, List.getElem?_set]
  by_cases e : i = j
  · subst e
    have hlt := (List.getElem?_eq_some_iff.1 hl).1
    have e : r.l[i] = x := by rw [List.getElem?_eq_getElem hlt] at hl; exact Option.some.inj hl
    simp [hlt, hn, e]
  · rw [if_neg e]
    cases hj : r.l[j]? with
    | none => rfl
    | some y =>
      have : n ≠ y.bill.number := fun h => e (hN i j x y hl hj (hn ▸ h))
      simp [this]
end Go.Proofs.YtfbjpfgglgffgaaGreat
