/- Acts that came in as an argument: what the form reads of them, in the words of the walks. -/
import Derived.Test.YtfbjpfgglgffgaaGreatGb
import Derived.Deep.Slices
import Derived.Deep.Strs
import Derived.ChangeSame
set_option linter.unusedVariables false
set_option linter.unusedSimpArgs false
set_option linter.unusedSectionVars false
set_option linter.unnecessarySimpa false
namespace Go.Proofs.YtfbjpfgglgffgaaGreat
open Go Go.SK Go.ChangeShapes Go.WideShapes

/-- A struct's field: its type, its place, its cells. -/
def partB (P : Program) (t j ft o k : Nat) : Bool :=
  match P.underlying t with
  | some (.struct fs) => match fs[j]? with
    | some f => f.type == ft && f.offset == o && P.cellsOf ft == k
    | none => false
  | _ => false
section
variable {H : Type} {enc : TypeId × Value → H} {P : Program} {w : World} {base : Nat} {spare : Nat → Bool} {held : Bool}
theorem open_part {t j ft o k fuel : Nat} {cs : List Value} {x : DataW H × List MemPlace} (hp : partB P t j ft o k = true) (h : DataW.trod enc P w base spare held fuel t cs = some x) : ∃ n y, DataW.trod enc P w base spare held n ft ((cs.drop o).take k) = some y := by
  unfold partB at hp
  split at hp
  · rename_i fs hu
    split at hp
    · rename_i f hf
      simp only [Bool.and_eq_true, beq_iff_eq] at hp
      obtain ⟨⟨rfl, rfl⟩, rfl⟩ := hp
      obtain ⟨xs, n, _, _, _, hl, hg⟩ := DataW.trod_struct hu h
      have := hg j f hf
      have hj : j < xs.length := by rw [hl]; exact (Array.getElem?_eq_some_iff.1 hf).1
      rw [List.getElem?_eq_getElem hj] at this
      exact ⟨n, _, this⟩
    · cases hp
  · cases hp
theorem open_len {t k fuel : Nat} {cs : List Value} {x : DataW H × List MemPlace} {fs : Array Field} (hu : P.underlying t = some (.struct fs)) (hk : P.cellsOf t = k) (h : DataW.trod enc P w base spare held fuel t cs = some x) : cs.length = k := by
  obtain ⟨_, _, _, _, h, _⟩ := DataW.trod_struct hu h
  rw [h, hk]
theorem spot_of {a : Addr} {v : Value} (h : w.cell? a = some v) : a = ⟨a.block, a.off, none⟩ := by
  obtain ⟨b, o, s⟩ := a
  cases s with
  | none => rfl
  | some s =>
    exfalso
    unfold World.cell? at h
    dsimp only at h
    cases hb : w.heap[b]? with
    | none => rw [hb] at h; cases h
    | some ob => rw [hb] at h; cases ob <;> simp at h
/-- Texts. -/
theorem open_texts {t e fuel : Nat} {cs : List Value} {x : DataW H × List MemPlace} (hsp : ∀ b, spare b = true) (ht : P.underlying t = some (.slice e)) (he : P.underlying e = some .string) (hc : P.cellsOf e = 1) (h : DataW.trod enc P w base spare held fuel t cs = some x) :
    ∃ (v : Value) (l : List ByteArray), cs = [v] ∧ SlS (fun _ => True) w v l ∧ (∀ p n c, v = .slice p n c → n ≤ c) ∧ ∀ s ∈ l, s.size ≤ maxLen := by
  rcases Go.Deep.open_strs ht he hc h with ⟨rfl, _⟩ | ⟨a, len, cap, m, Sx, rfl, _, hl, hm, hmm, _, hx⟩
  · exact ⟨_, [], rfl, Sl.nil _ _ _, (fun p n c h => by cases h; exact Nat.le_refl _), by simp⟩
  · rw [hsp, if_pos rfl] at hmm
    subst hmm
    refine ⟨_, (List.range len).map Sx, rfl, ⟨⟨some a, m, by simp, (fun h => by cases h), fun hne => ?_⟩, by simp; omega⟩, (fun p n c h => by cases h; exact hl), ?_⟩
    · have h0 : 0 < len := by
        rcases Nat.eq_zero_or_pos len with h | h
        · subst h; simp at hne
        · exact h
      have hz := (hx 0 (by omega)).1
      have e0 : a.add 0 = a := rfl
      rw [e0] at hz
      have ea := spot_of hz
      refine ⟨a.block, a.off, by rw [← ea], trivial, fun i row hi => ?_⟩
      rw [List.getElem?_map, List.getElem?_map] at hi
      have hi' : i < len := by
        rcases Nat.lt_or_ge i len with h | h
        · exact h
        · rw [List.getElem?_eq_none (by simpa using h)] at hi; cases hi
      rw [List.getElem?_range hi'] at hi
      cases hi
      refine ⟨rfl, ?_⟩
      have := (hx i (by omega)).1
      rw [ea, addr_add] at this
      rw [Nat.mul_one]
      exact Rd.one this
    · intro s hs
      obtain ⟨i, hi, rfl⟩ := List.mem_map.1 hs
      exact (hx i (by have := List.mem_range.1 hi; omega)).2
end
section
variable {H : Type} {enc : TypeId × Value → H} {w : World} {base : Nat} {spare : Nat → Bool} {held : Bool}
theorem open_bill {fuel : Nat} {cs : List Value} {x : DataW H × List MemPlace} (hsp : ∀ b, spare b = true) (h : DataW.trod enc Tryz.prog w base spare held fuel 35 cs = some x) :
    ∃ b vb vp, cs = encB b vb vp ∧ SlS (fun _ => True) w vb b.boxes ∧ SlS (fun _ => True) w vp b.parents ∧ (∀ p n c, vb = .slice p n c → n ≤ c) ∧ b.Ok := by
  obtain ⟨n0, y0, h0⟩ := open_part (j := 0) (ft := 9) (o := 0) (k := 1) (by kernel_rfl) h
  obtain ⟨n1, y1, h1⟩ := open_part (j := 1) (ft := 9) (o := 1) (k := 1) (by kernel_rfl) h
  obtain ⟨n2, y2, h2⟩ := open_part (j := 2) (ft := 9) (o := 2) (k := 1) (by kernel_rfl) h
  obtain ⟨n3, y3, h3⟩ := open_part (j := 3) (ft := 9) (o := 3) (k := 1) (by kernel_rfl) h
  obtain ⟨n4, y4, h4⟩ := open_part (j := 4) (ft := 9) (o := 4) (k := 1) (by kernel_rfl) h
  obtain ⟨n5, y5, h5⟩ := open_part (j := 5) (ft := 32) (o := 5) (k := 1) (by kernel_rfl) h
  obtain ⟨n6, y6, h6⟩ := open_part (j := 6) (ft := 32) (o := 6) (k := 1) (by kernel_rfl) h
  obtain ⟨n7, y7, h7⟩ := open_part (j := 7) (ft := 3) (o := 7) (k := 1) (by kernel_rfl) h
  obtain ⟨n8, y8, h8⟩ := open_part (j := 8) (ft := 4) (o := 8) (k := 1) (by kernel_rfl) h
  have hlen : cs.length = 9 := open_len (fs := (Tryz.prog.underlying 35).elim #[] fun d => match d with | .struct fs => fs | _ => #[]) (by kernel_rfl) (by kernel_rfl) h
  have us : Tryz.prog.underlying 9 = some .string := by kernel_rfl
  match cs, hlen with
  | [c0, c1, c2, c3, c4, c5, c6, c7, c8], _ =>
    obtain ⟨s0, e0, _, k0⟩ := DataW.trod_string us h0
    obtain ⟨s1, e1, _, k1⟩ := DataW.trod_string us h1
    obtain ⟨s2, e2, _, k2⟩ := DataW.trod_string us h2
    obtain ⟨s3, e3, _, k3⟩ := DataW.trod_string us h3
    obtain ⟨s4, e4, _, k4⟩ := DataW.trod_string us h4
    obtain ⟨v5, l5, e5, g5, q5, k5⟩ := open_texts (e := 9) hsp (by kernel_rfl) us (by kernel_rfl) h5
    obtain ⟨v6, l6, e6, g6, _, k6⟩ := open_texts (e := 9) hsp (by kernel_rfl) us (by kernel_rfl) h6
    obtain ⟨i7, e7, _, _⟩ := DataW.trod_int (k := .i64) (by kernel_rfl) h7
    obtain ⟨b8, e8, _⟩ := DataW.trod_bool (by kernel_rfl) h8
    simp at e0 e1 e2 e3 e4 e5 e6 e7 e8
    subst e0 e1 e2 e3 e4 e5 e6 e7 e8
    exact ⟨⟨s0, s1, s2, s3, s4, l5, l6, i7, b8⟩, c5, c6, rfl, g5, g6, q5, ⟨k0, k1, k2, k3, k4, k5, k6⟩⟩
theorem open_act {fuel : Nat} {cs : List Value} {x : DataW H × List MemPlace} (hsp : ∀ b, spare b = true) (h : DataW.trod enc Tryz.prog w base spare held fuel 44 cs = some x) :
    ∃ a vb vp, cs = encAct a vb vp ∧ ActAt (fun _ => True) w a vb vp := by
  obtain ⟨n0, y0, h0⟩ := open_part (j := 0) (ft := 3) (o := 0) (k := 1) (by kernel_rfl) h
  obtain ⟨n1, y1, h1⟩ := open_part (j := 1) (ft := 3) (o := 1) (k := 1) (by kernel_rfl) h
  obtain ⟨n2, y2, h2⟩ := open_part (j := 2) (ft := 3) (o := 2) (k := 1) (by kernel_rfl) h
  obtain ⟨n3, y3, h3⟩ := open_part (j := 3) (ft := 9) (o := 3) (k := 1) (by kernel_rfl) h
  obtain ⟨n4, y4, h4⟩ := open_part (j := 4) (ft := 9) (o := 4) (k := 1) (by kernel_rfl) h
  obtain ⟨n5, y5, h5⟩ := open_part (j := 5) (ft := 9) (o := 5) (k := 1) (by kernel_rfl) h
  obtain ⟨n6, y6, h6⟩ := open_part (j := 6) (ft := 35) (o := 6) (k := 9) (by kernel_rfl) h
  have hlen : cs.length = 15 := open_len (fs := (Tryz.prog.underlying 44).elim #[] fun d => match d with | .struct fs => fs | _ => #[]) (by kernel_rfl) (by kernel_rfl) h
  have us : Tryz.prog.underlying 9 = some .string := by kernel_rfl
  have ui : Tryz.prog.underlying 3 = some (.int .i64) := by kernel_rfl
  match cs, hlen with
  | [c0, c1, c2, c3, c4, c5, c6, c7, c8, c9, c10, c11, c12, c13, c14], _ =>
    obtain ⟨i0, e0, _, _⟩ := DataW.trod_int ui h0
    obtain ⟨i1, e1, _, _⟩ := DataW.trod_int ui h1
    obtain ⟨i2, e2, _, _⟩ := DataW.trod_int ui h2
    obtain ⟨s3, e3, _, k3⟩ := DataW.trod_string us h3
    obtain ⟨s4, e4, _, k4⟩ := DataW.trod_string us h4
    obtain ⟨s5, e5, _, k5⟩ := DataW.trod_string us h5
    obtain ⟨b, vb, vp, e6, g1, g2, g3, g4⟩ := open_bill hsp h6
    simp at e0 e1 e2 e3 e4 e5 e6
    subst e0 e1 e2 e3 e4 e5
    refine ⟨⟨i0, i1, i2, s3, s4, s5, b⟩, vb, vp, ?_, ⟨g1, g2, g3, ⟨k3, k4, k5, g4⟩⟩⟩
    simp only [encAct]
    rw [← e6]; rfl
theorem open_acts {fuel : Nat} {cs : List Value} {x : DataW H × List MemPlace} (hsp : ∀ b, spare b = true) (h : DataW.trod enc Tryz.prog w base spare held fuel 22 cs = some x) :
    ∃ v l, cs = [v] ∧ ActsAt (fun _ => True) w v l := by
  have hC : Tryz.prog.cellsOf 44 = 15 := by kernel_rfl
  rcases Go.Deep.open_slice (e := 44) (by kernel_rfl) h with ⟨rfl, _⟩ | ⟨a, len, cap, m, n, D, Pl, rfl, _, hl, hm, hmm, _, hx⟩
  · exact ⟨_, [], rfl, ⟨none, 0, rfl, Nat.zero_le _, fun i hi => by simp at hi⟩⟩
  · rw [hsp, if_pos rfl] at hmm
    subst hmm
    rw [hC] at hx
    have each : ∀ i, i < m → ∃ q : (ActD × Value × Value), (∀ j, j < 15 → w.cell? ((a.add (i * 15)).add j) = (encAct q.1 q.2.1 q.2.2)[j]?) ∧ ActAt (fun _ => True) w q.1 q.2.1 q.2.2 := by
      intro i hi
      obtain ⟨cs', h1, h2⟩ := hx i hi
      obtain ⟨_, _, h3⟩ := World.cells?_some h1
      obtain ⟨q, vb, vp, rfl, h4⟩ := open_act hsp h2
      exact ⟨(q, vb, vp), h3, h4⟩
    have ex : ∃ f : Nat → ActD × Value × Value, ∀ i, i < m → (∀ j, j < 15 → w.cell? ((a.add (i * 15)).add j) = (encAct (f i).1 (f i).2.1 (f i).2.2)[j]?) ∧ ActAt (fun _ => True) w (f i).1 (f i).2.1 (f i).2.2 := by
      classical
      refine ⟨fun i => if hi : i < m then Classical.choose (each i hi) else (⟨0, 0, 0, ⟨#[]⟩, ⟨#[]⟩, ⟨#[]⟩, ⟨⟨#[]⟩, ⟨#[]⟩, ⟨#[]⟩, ⟨#[]⟩, ⟨#[]⟩, [], [], 0, false⟩⟩, undef, undef), fun i hi => ?_⟩
      simp only [dif_pos hi]
      exact Classical.choose_spec (each i hi)
    obtain ⟨f, hf⟩ := ex
    refine ⟨_, (List.range len).map fun i => (f i).1, rfl, ⟨some a, m, by simp, by simp; omega, fun i hi => ?_⟩⟩
    have hi' : i < len := by simpa using hi
    have hz := (hf 0 (by omega)).1 0 (by omega)
    have e0 : (a.add (0 * 15)).add 0 = a := rfl
    rw [e0] at hz
    have ea := spot_of (hz.trans rfl)
    obtain ⟨h1, h2⟩ := hf i (by omega)
    refine ⟨a.block, a.off, (f i).2.1, (f i).2.2, by rw [← ea], trivial, ?_, ?_⟩
    · have e : ((List.range len).map fun i => (f i).1)[i] = (f i).1 := by simp
      rw [e]
      intro j v hj
      have hj' : j < 15 := (List.getElem?_eq_some_iff.1 hj).1
      have := h1 j hj'
      rw [ea, addr_add, addr_add] at this
      rw [this]; exact hj
    · have e : ((List.range len).map fun i => (f i).1)[i] = (f i).1 := by simp
      rw [e]; exact h2
end
end Go.Proofs.YtfbjpfgglgffgaaGreat
