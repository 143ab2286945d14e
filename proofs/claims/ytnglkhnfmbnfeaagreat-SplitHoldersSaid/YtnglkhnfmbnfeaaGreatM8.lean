/- Texts of ours, laid together, part 8: the walking kit, the model, contracts of functions, plain laws. -/
import Derived.Test.YtnglkhnfmbnfeaaGreatM7
set_option linter.unusedVariables false
set_option linter.unusedSimpArgs false
set_option linter.unusedSectionVars false
set_option linter.unnecessarySimpa false
/- Ue -/
namespace Go.Proofs.YtnglkhnfmbnfeaaGreat
open Go Go.SK

def encS (a : SActD) (vp vn : Value) : List Value := [.int .u8 a.kind, .string a.bill, .string a.by_, .string a.number, .string a.shipper, .string a.frm, vp, vn, .int .i64 a.day]
/-- Slices of slices whose lengths lie within their capacities. -/
def PCap (A : Nat → Prop) (w : World) (v : Value) (ps : List (List ByteArray)) : Prop := ∃ p cap, v = .slice p ps.length cap ∧ ∀ i, i < ps.length → ∃ b o a n c, p = some ⟨b, o, none⟩ ∧ A b ∧ Rd w b (o + i * 1) [.slice a n c] ∧ n ≤ c
theorem PCap.ext {A F : Nat → Prop} {w w' : World} {v : Value} {ps : List (List ByteArray)} (h : PCap A w v ps) (hx : Ext F w w') (hn : ∀ b, A b → ¬ F b) : PCap A w' v ps := by
  obtain ⟨p, cap, h1, h2⟩ := h
  refine ⟨p, cap, h1, fun i hi => ?_⟩
  obtain ⟨b, o, a, n, c, e1, e2, e3, e4⟩ := h2 i hi
  exact ⟨b, o, a, n, c, e1, e2, e3.ext hx (hn b e2), e4⟩
theorem SlsAt.lt {A : Nat → Prop} {w : World} {v : Value} {ps : List (List ByteArray)} (h : SlsAt A w v ps) : SlsAt (fun b => A b ∧ b < w.heap.size) w v ps := by
  obtain ⟨p, cap, h1, h2⟩ := h.is
  refine ⟨⟨p, cap, h1, fun i hi => ?_⟩, h.small, h.zero⟩
  obtain ⟨b, o, u, e1, e2, e3, e4⟩ := h2 i hi
  exact ⟨b, o, u, e1, ⟨e2, rd_lt e3⟩, e3, e4.lt (by decide)⟩
theorem PCap.lt {A : Nat → Prop} {w : World} {v : Value} {ps : List (List ByteArray)} (h : PCap A w v ps) : PCap (fun b => A b ∧ b < w.heap.size) w v ps := by
  obtain ⟨p, cap, h1, h2⟩ := h
  refine ⟨p, cap, h1, fun i hi => ?_⟩
  obtain ⟨b, o, a, n, c, e1, e2, e3, e4⟩ := h2 i hi
  exact ⟨b, o, a, n, c, e1, ⟨e2, rd_lt e3⟩, e3, e4⟩
theorem SlsAt.any {A : Nat → Prop} {w : World} {v : Value} {ps : List (List ByteArray)} (h : SlsAt A w v ps) : SlsAt (fun _ => True) w v ps := by
  obtain ⟨p, cap, h1, h2⟩ := h.is
  refine ⟨⟨p, cap, h1, fun i hi => ?_⟩, h.small, h.zero⟩
  obtain ⟨b, o, u, e1, e2, e3, e4⟩ := h2 i hi
  exact ⟨b, o, u, e1, trivial, e3, e4.weaken fun _ _ => trivial⟩
theorem PCap.any {A : Nat → Prop} {w : World} {v : Value} {ps : List (List ByteArray)} (h : PCap A w v ps) : PCap (fun _ => True) w v ps := by
  obtain ⟨p, cap, h1, h2⟩ := h
  refine ⟨p, cap, h1, fun i hi => ?_⟩
  obtain ⟨b, o, a, n, c, e1, e2, e3, e4⟩ := h2 i hi
  exact ⟨b, o, a, n, c, e1, trivial, e3, e4⟩
structure SActAt (A : Nat → Prop) (w : World) (a : SActD) (vp vn : Value) : Prop where
  parts : SlsAt A w vp a.parts
  cap : PCap A w vp a.parts
  names : SlS A w vn a.names
  ok : a.Ok
theorem SActAt.ext {A F : Nat → Prop} {w w' : World} {a : SActD} {vp vn : Value} (h : SActAt A w a vp vn) (hx : Ext F w w') (hn : ∀ b, A b → ¬ F b) : SActAt A w' a vp vn := ⟨h.parts.ext hx hn, h.cap.ext hx hn, h.names.ext hx hn, h.ok⟩
theorem SActAt.ex {A : Nat → Prop} {w w' : World} {a : SActD} {vp vn : Value} (h : SActAt A w a vp vn) (hx : Ex w w') : SActAt A w' a vp vn := h.ext hx fun _ _ f => f
theorem SActAt.lt {A : Nat → Prop} {w : World} {a : SActD} {vp vn : Value} (h : SActAt A w a vp vn) : SActAt (fun b => A b ∧ b < w.heap.size) w a vp vn := ⟨h.parts.lt, h.cap.lt, h.names.lt (by decide), h.ok⟩
/-- A slice of acts that is read. -/
structure SActsAt (A : Nat → Prop) (w : World) (v : Value) (l : List SActD) : Prop where
  is : ∃ p cap, v = .slice p l.length cap ∧ l.length ≤ maxLen ∧ (∀ i (hi : i < l.length), ∃ b o vp vn, p = some ⟨b, o, none⟩ ∧ A b ∧ Rd w b (o + i * 9) (encS l[i] vp vn) ∧ SActAt A w l[i] vp vn)
theorem SActsAt.ext {A F : Nat → Prop} {w w' : World} {v : Value} {l : List SActD} (h : SActsAt A w v l) (hx : Ext F w w') (hn : ∀ b, A b → ¬ F b) : SActsAt A w' v l := by
  obtain ⟨p, cap, h1, h2, h3⟩ := h.is
  refine ⟨p, cap, h1, h2, fun i hi => ?_⟩
  obtain ⟨b, o, vp, vn, h4, h5, h6, h7⟩ := h3 i hi
  exact ⟨b, o, vp, vn, h4, h5, h6.ext hx (hn b h5), h7.ext hx hn⟩
theorem SActsAt.ex {A : Nat → Prop} {w w' : World} {v : Value} {l : List SActD} (h : SActsAt A w v l) (hx : Ex w w') : SActsAt A w' v l := h.ext hx fun _ _ f => f
theorem SActsAt.lt {A : Nat → Prop} {w : World} {v : Value} {l : List SActD} (h : SActsAt A w v l) : SActsAt (fun b => A b ∧ b < w.heap.size) w v l := by
  obtain ⟨p, cap, h1, h2, h3⟩ := h.is
  refine ⟨p, cap, h1, h2, fun i hi => ?_⟩
  obtain ⟨b, o, vp, vn, h4, h5, h6, h7⟩ := h3 i hi
  exact ⟨b, o, vp, vn, h4, ⟨h5, rd_lt h6⟩, h6, h7.lt⟩
theorem SActsAt.ok {A : Nat → Prop} {w : World} {v : Value} {l : List SActD} (h : SActsAt A w v l) : ∀ a ∈ l, a.Ok := by
  obtain ⟨p, cap, _, _, h3⟩ := h.is
  intro a ha
  obtain ⟨i, hi, rfl⟩ := List.getElem_of_mem ha
  obtain ⟨_, _, _, _, _, _, _, h7⟩ := h3 i hi
  exact h7.ok
/-- What 'few' promises of an act, of acts. -/
def FewA (a : SActD) : Prop := a.parts.length ≤ 70 ∧ a.names.length ≤ 70 ∧ ∀ p ∈ a.parts, p.length ≤ 70
def FewS (l : List SActD) : Prop := l.length ≤ 12 ∧ ∀ a ∈ l, FewA a
set_option maxHeartbeats 4000000 in
theorem l24_few {A : Nat → Prop} {w : World} {v : Value} {l : List SActD} (hA : SActsAt A w v l) : Ret Tryz.prog 19 [v] w fun u w' => (∃ b, u = .bool b ∧ (b = true → FewS l)) ∧ Ex w w' := by
  obtain ⟨p, cap, rfl, hm, hr⟩ := hA.is
  unfold maxLen at hm
  have no : ∀ w', Ex w w' → (∃ b, Value.bool false = .bool b ∧ (b = true → FewS l)) ∧ Ex w w' := fun w' h => ⟨⟨false, rfl, fun h => by cases h⟩, h⟩
  refine ret_of Tryz.func19 Tryz.ntmps19 rfl rfl rfl ?_
  (repeat (first | refine lw_pure hT rfl ?_ | refine lw_nil ?_ | refine cw_seq ?_ | refine cw_region ?_ | refine qw_then ?_ | refine cw_block ?_))
  refine cw_loop (fun i : Nat => [(0, .slice p l.length cap), (3, .int .i64 (i : Nat))]) (fun i w' => Ex w w' ∧ i ≤ l.length ∧ ∀ j (hj : j < l.length), j < i → FewA l[j]) (fun i => l.length - i) 0 (by repeat (first | exact trivial | refine ⟨rfl, ?_⟩)) ⟨Ext.refl _ _, Nat.zero_le _, fun j _ hj => by omega⟩ ?_
  rintro i w1 ⟨hx1, hi, hb⟩
  (repeat (first | refine lw_pure hT rfl ?_ | refine lw_nil ?_ | refine cw_seq ?_ | refine cw_region ?_ | refine qw_then ?_))
  refine cw_cond rfl (fun h => ?_) (fun h => ?_)
  · have hlt : i < l.length := by simp at h; omega
    obtain ⟨b, o, vp, vn, rfl, _, hrd, hat⟩ := hr i hlt
    have hgoal : FewA l[i] → ∀ j (hj : j < l.length), j < i + 1 → FewA l[j] := fun h j hj hji => by
      by_cases e : j = i
      · subst e; exact h
      · exact hb j hj (by omega)
    generalize l[i] = a at hrd hat hgoal
    obtain ⟨pp, cp, rfl, hprow⟩ := hat.parts.is
    have hpm := hat.parts.small
    have hnm := hat.names.small
    obtain ⟨pn, cn, rfl, _, _⟩ := hat.names.is
    simp only [List.length_map] at *
    unfold maxLen at hpm hnm
    have hrd1 := hrd.ex hx1
    have c6 := hrd1 6 _ (show (encS a (.slice pp a.parts.length cp) (.slice pn a.names.length cn))[6]? = some (.slice pp a.parts.length cp) from rfl)
    have c7 := hrd1 7 _ (show (encS a (.slice pp a.parts.length cp) (.slice pn a.names.length cn))[7]? = some (.slice pn a.names.length cn) from rfl)
    (repeat (first | refine lw_pure hT rfl ?_ | refine cw_seq ?_ | refine cw_region ?_ | refine qw_then ?_ | refine cw_skip ?_ | refine cw_block ?_))
    refine lw_index hT rfl rfl rfl i rfl hlt ?_
    (repeat (refine lw_pure hT rfl ?_))
    refine lw_load hT rfl rfl (v := .slice pp a.parts.length cp) c6 ?_
    (repeat (refine lw_pure hT rfl ?_))
    refine lw_guard rfl (fun h1 => ?_) (fun h1 => ?_)
    · (repeat (first | refine lw_pure hT rfl ?_ | refine lw_nil ?_ | refine cw_seq ?_ | refine cw_region ?_ | refine qw_then ?_ | refine cw_ret ?_ | refine qw_then_ret ?_ | (refine lw_goff_t rfl ?_ ?_; focus (first | with_reducible rfl | with_reducible exact Bool.not_false | with_reducible exact Bool.not_true)) | refine qw_block_ret ?_ | (refine cw_cond_t rfl ?_ ?_; focus (first | with_reducible rfl | with_reducible exact Bool.not_false | with_reducible exact Bool.not_true))))
      exact qw_ret rfl (no _ hx1)
    have h1 : a.parts.length ≤ 70 := by have := of_decide_eq_false h1; omega
    (repeat (first | refine lw_pure hT rfl ?_ | (refine lw_gon_f rfl ?_ ?_; focus (first | with_reducible rfl | with_reducible exact Bool.not_false | with_reducible exact Bool.not_true))))
    refine lw_index hT rfl rfl rfl i rfl hlt ?_
    (repeat (first | refine lw_pure hT rfl ?_ | (refine lw_gon_f rfl ?_ ?_; focus (first | with_reducible rfl | with_reducible exact Bool.not_false | with_reducible exact Bool.not_true))))
    refine lw_load hT rfl rfl (v := .slice pn a.names.length cn) c7 ?_
    (repeat (first | refine lw_pure hT rfl ?_ | refine lw_nil ?_ | refine qw_then ?_ | (refine lw_gon_f rfl ?_ ?_; focus (first | with_reducible rfl | with_reducible exact Bool.not_false | with_reducible exact Bool.not_true))))
    refine cw_cond rfl (fun h2 => ?_) (fun h2 => ?_)
    · (repeat (first | refine lw_pure hT rfl ?_ | refine lw_nil ?_ | refine cw_seq ?_ | refine cw_region ?_ | refine qw_then ?_ | refine cw_ret ?_ | refine qw_then_ret ?_ | refine qw_block_ret ?_))
      exact qw_ret rfl (no _ hx1)
    have h2 : a.names.length ≤ 70 := by have := of_decide_eq_false h2; omega
    (repeat (first | refine lw_pure hT rfl ?_ | refine lw_nil ?_ | refine cw_seq ?_ | refine cw_region ?_ | refine qw_then ?_ | refine cw_skip ?_ | refine cw_block ?_))
    refine cw_loop (fun j : Nat => [(0, .slice (some ⟨b, o, none⟩) l.length cap), (3, .int .i64 (i : Nat)), (4, .int .i64 (j : Nat))]) (fun j w' => w' = w1 ∧ j ≤ a.parts.length ∧ ∀ q (hq : q < a.parts.length), q < j → a.parts[q].length ≤ 70) (fun j => a.parts.length - j) 0 (by repeat (first | exact trivial | refine ⟨rfl, ?_⟩)) ⟨rfl, Nat.zero_le _, fun q _ hq => by omega⟩ ?_
    rintro j w2 ⟨rfl, hj, hq⟩
    (repeat (first | refine lw_pure hT rfl ?_ | refine cw_seq ?_ | refine cw_region ?_))
    refine lw_index hT rfl rfl rfl i rfl hlt ?_
    (repeat (refine lw_pure hT rfl ?_))
    refine lw_load hT rfl rfl (v := .slice pp a.parts.length cp) c6 ?_
    (repeat (first | refine lw_pure hT rfl ?_ | refine lw_nil ?_ | refine qw_then ?_))
    refine cw_cond rfl (fun h => ?_) (fun h => ?_)
    · have hjl : j < a.parts.length := by have := of_decide_eq_true h; omega
      obtain ⟨bp, op, u, rfl, _, hrdp, hu⟩ := hprow j hjl
      have hum := hu.small
      obtain ⟨au, cu, rfl, _⟩ := hu.is
      simp only [List.length_map] at *
      unfold maxLen at hum
      (repeat (first | refine lw_pure hT rfl ?_ | refine cw_seq ?_ | refine cw_region ?_ | refine qw_then ?_ | refine cw_skip ?_ | refine cw_block ?_))
      refine lw_index hT rfl rfl rfl i rfl hlt ?_
      (repeat (refine lw_pure hT rfl ?_))
      refine lw_load hT rfl rfl (v := .slice (some ⟨bp, op, none⟩) a.parts.length cp) c6 ?_
      (repeat (refine lw_pure hT rfl ?_))
      refine lw_index hT rfl rfl rfl j rfl hjl ?_
      skip
      refine lw_load hT rfl rfl (v := .slice au a.parts[j].length cu) ((hrdp.ex hx1) 0 _ rfl) ?_
      (repeat (first | refine lw_pure hT rfl ?_ | refine lw_nil ?_ | refine qw_then ?_))
      refine cw_cond rfl (fun h3 => ?_) (fun h3 => ?_)
      · (repeat (first | refine lw_pure hT rfl ?_ | refine lw_nil ?_ | refine cw_seq ?_ | refine cw_region ?_ | refine qw_then ?_ | refine cw_ret ?_ | refine qw_then_ret ?_ | refine qw_block_ret ?_))
        exact qw_ret rfl (no _ hx1)
      have h3 : a.parts[j].length ≤ 70 := by have := of_decide_eq_false h3; omega
      (repeat (first | (refine lw_add rfl rfl ?_ ?_ ?_; iterate 2 omega) | refine lw_pure hT rfl ?_ | refine lw_nil ?_ | refine cw_region ?_ | refine qw_then ?_ | refine cw_skip ?_ | refine qw_block ?_))
      refine qw_round (j + 1) (by repeat (first | exact trivial | refine ⟨rfl, ?_⟩)) ⟨rfl, hjl, fun q hql hqj => ?_⟩ (by omega)
      by_cases e : q = j
      · subst e; exact h3
      · exact hq q hql (by omega)
    · have hjl : j = a.parts.length := by have := of_decide_eq_false h; omega
      subst hjl
      (repeat (first | (refine lw_add rfl rfl ?_ ?_ ?_; iterate 2 omega) | refine lw_pure hT rfl ?_ | refine lw_nil ?_ | refine cw_region ?_ | refine qw_then ?_ | refine cw_exit ?_ | refine qw_block ?_ | refine qw_block_exit ?_ | refine qw_then_exit ?_))
      exact qw_round (i + 1) (by repeat (first | exact trivial | refine ⟨rfl, ?_⟩)) ⟨hx1, hlt, hgoal ⟨h1, h2, fun q hq' => by obtain ⟨z, hz, rfl⟩ := List.getElem_of_mem hq'; exact hq z hz hz⟩⟩ (by omega)
  · have : i = l.length := by simp at h; omega
    subst this
    (repeat (first | refine lw_pure hT rfl ?_ | refine lw_nil ?_ | refine cw_seq ?_ | refine cw_region ?_ | refine qw_then ?_ | refine cw_ret ?_ | refine cw_exit ?_ | refine qw_block_exit ?_ | refine qw_then_exit ?_))
    refine qw_ret rfl ⟨⟨_, rfl, fun h => ⟨by have := of_decide_eq_true h; omega, fun a ha => ?_⟩⟩, hx1⟩
    obtain ⟨j, hj, rfl⟩ := List.getElem_of_mem ha
    exact hb j hj hj
theorem u8mod {k : Int} (h : 0 ≤ k ∧ k ≤ 255) : k.tmod 3 = 0 ∨ k.tmod 3 = 1 ∨ k.tmod 3 = 2 := by
  rw [Int.tmod_eq_emod_of_nonneg h.1]; omega
set_option maxHeartbeats 4000000 in
theorem l24_do {A : Nat → Prop} {w : World} {p m k : Nat} {r : RegD} {gs : List GhostE} (hR : Rep w p r m gs) (hG : Good k r) (hk : k + 65 ≤ 1000000) {a : SActD} {vp vn : Value} (hat : SActAt A w a vp vn) (hf : FewA a) :
    Ret Tryz.prog 20 [.pointer (some ⟨p, 0, none⟩), .agg ⟨encS a vp vn⟩] w fun u w' => u = .int .i64 (callC r (callD r a)) ∧ Mut w p m gs (callR r (callD r a)) w' := by
  have hsize := hat.parts.small
  have o6 : vp.oneCell' = true := by obtain ⟨p, c, e, _⟩ := hat.parts.is; rw [e]; rfl
  have o7 : vn.oneCell' = true := Sl.one hat.names
  refine ret_of Tryz.func20 Tryz.ntmps20 rfl rfl rfl ?_
  (repeat (first | refine cw_seq ?_ | refine cw_region ?_))
  refine lw_box rfl ?_
  intro b5 w1 hbb5 hb5 hx1 hs1
  replace hb5 : Blk w1 b5 (encS a vp vn) 45 := hb5
  have hR1 := hR.ex hx1
  have hat1 := hat.ex hx1
  have fin : ∀ {c : Int × List ActD} w8, callD r a = c → Mut w1 p m gs (callR r c) w8 → Value.int .i64 (callC r c) = .int .i64 (callC r (callD r a)) ∧ Mut w p m gs (callR r (callD r a)) w8 := fun {c} w8 e hm => by rw [e]; exact ⟨rfl, Mut.step (fun b hb => .inl hb) (Ext.of_ex hx1) hm⟩
  (repeat (first | refine lw_pure hT rfl ?_ | refine lw_nil ?_ | refine cw_seq ?_ | refine cw_region ?_ | refine qw_then ?_))
  refine lw_load hT rfl rfl (v := .int .u8 a.kind) (hb5.cell 0) ?_
  skip
  refine lw_rem8 rfl rfl (by decide) ?_
  (repeat (first | refine lw_pure hT rfl ?_ | refine lw_nil ?_ | refine cw_seq ?_ | refine cw_region ?_ | refine qw_then ?_ | refine cw_block ?_))
  refine cw_cond rfl (fun h0 => ?_) (fun h0 => ?_)
  · have h0 : a.kind.tmod 3 = 0 := by simpa using h0
    have e : callD r a = splitC r a.bill a.by_ a.parts a.names a.day := by unfold callD; rw [if_pos h0]
    (repeat (first | refine lw_pure hT rfl ?_ | refine cw_seq ?_ | refine cw_region ?_))
    refine lw_load hT rfl rfl (v := .string a.bill) (hb5.cell 1) ?_
    (repeat (refine lw_pure hT rfl ?_))
    refine lw_load hT rfl rfl (v := .string a.by_) (hb5.cell 2) ?_
    (repeat (refine lw_pure hT rfl ?_))
    refine lw_load hT rfl rfl (v := vp) (hb5.cell 6) ?_
    (repeat (refine lw_pure hT rfl ?_))
    refine lw_load hT rfl rfl (v := vn) (hb5.cell 7) ?_
    (repeat (refine lw_pure hT rfl ?_))
    refine lw_load hT rfl rfl (v := .int .i64 a.day) (hb5.cell 8) ?_
    skip
    refine lw_call hT rfl rfl (spl_Split hR1 hG hk a.bill a.by_ a.day hat1.parts hat1.names hat.ok.bill hat.ok.by_ hat.ok.names hat.ok.parts (fun q hq => by have := hf.2.2 q hq; omega) (by have := hf.1; omega)) ?_
    rintro _ w8 ⟨rfl, hm⟩
    (repeat (first | refine lw_pure hT rfl ?_ | refine lw_nil ?_ | refine qw_then ?_ | refine cw_ret ?_ | refine qw_then_ret ?_ | refine qw_block_ret ?_))
    exact qw_ret rfl (fin w8 e hm)
  have h0 : ¬ a.kind.tmod 3 = 0 := by simpa using h0
  (repeat (first | refine lw_pure hT rfl ?_ | refine lw_nil ?_ | refine cw_seq ?_ | refine cw_region ?_ | refine qw_then ?_))
  refine cw_cond rfl (fun h1 => ?_) (fun h1 => ?_)
  · have h1 : a.kind.tmod 3 = 1 := by simpa using h1
    have e : callD r a = joinC r a.names a.by_ a.number a.day := by unfold callD; rw [if_neg h0, if_pos h1]
    (repeat (first | refine lw_pure hT rfl ?_ | refine cw_seq ?_ | refine cw_region ?_))
    refine lw_load hT rfl rfl (v := vn) (hb5.cell 7) ?_
    (repeat (refine lw_pure hT rfl ?_))
    refine lw_load hT rfl rfl (v := .string a.by_) (hb5.cell 2) ?_
    (repeat (refine lw_pure hT rfl ?_))
    refine lw_load hT rfl rfl (v := .string a.number) (hb5.cell 3) ?_
    (repeat (refine lw_pure hT rfl ?_))
    refine lw_load hT rfl rfl (v := .int .i64 a.day) (hb5.cell 8) ?_
    skip
    refine lw_call hT rfl rfl (spl_Join hR1 hG hk a.by_ a.number a.day hat1.names hat.ok.names hat.ok.by_ hat.ok.number) ?_
    rintro _ w8 ⟨rfl, hm⟩
    (repeat (first | refine lw_pure hT rfl ?_ | refine lw_nil ?_ | refine qw_then ?_ | refine cw_ret ?_ | refine qw_then_ret ?_ | refine qw_block_ret ?_))
    exact qw_ret rfl (fin w8 e hm)
  have h1 : ¬ a.kind.tmod 3 = 1 := by simpa using h1
  have e : callD r a = switchC r a.bill a.by_ a.number a.shipper a.frm a.day := by unfold callD; rw [if_neg h0, if_neg h1]
  (repeat (first | refine lw_pure hT rfl ?_ | refine cw_seq ?_ | refine cw_region ?_ | refine qw_then ?_ | refine cw_skip ?_ | refine qw_block ?_))
  refine lw_load hT rfl rfl (v := .string a.bill) (hb5.cell 1) ?_
  (repeat (refine lw_pure hT rfl ?_))
  refine lw_load hT rfl rfl (v := .string a.by_) (hb5.cell 2) ?_
  (repeat (refine lw_pure hT rfl ?_))
  refine lw_load hT rfl rfl (v := .string a.number) (hb5.cell 3) ?_
  (repeat (refine lw_pure hT rfl ?_))
  refine lw_load hT rfl rfl (v := .string a.shipper) (hb5.cell 4) ?_
  (repeat (refine lw_pure hT rfl ?_))
  refine lw_load hT rfl rfl (v := .string a.frm) (hb5.cell 5) ?_
  (repeat (refine lw_pure hT rfl ?_))
  refine lw_load hT rfl rfl (v := .int .i64 a.day) (hb5.cell 8) ?_
  skip
  refine lw_call hT rfl rfl (spl_Switch hR1 hG (by omega) a.bill a.by_ a.number a.shipper a.frm a.day hat.ok.bill hat.ok.by_ hat.ok.number hat.ok.shipper hat.ok.frm) ?_
  rintro _ w8 ⟨rfl, hm⟩
  (repeat (first | refine lw_pure hT rfl ?_ | refine lw_nil ?_ | refine qw_then ?_ | refine cw_ret ?_))
  exact qw_ret rfl (fin w8 e hm)
end Go.Proofs.YtnglkhnfmbnfeaaGreat

/- Va -/
namespace Go.Proofs.YtnglkhnfmbnfeaaGreat
open Go Go.SK

theorem full_new (b : BillD) (h : ByteArray) : (newEnt b h).full h = true := by simp [EntD.full, newEnt]
theorem full_dead {e : EntD} (h : e.state ≠ 0) (who : ByteArray) : e.full who = false := by simp [EntD.full, h]
theorem until_new (b : BillD) (h : ByteArray) : ∀ k, k < 3 → papAt (newEnt b h) k = ⟨0, h, []⟩ := by
  intro k hk
  match k, hk with
  | 0, _ => rfl
  | 1, _ => rfl
  | 2, _ => rfl
theorem ixs3 {k : Nat} (h : k ∈ ixs (-1)) : k < 3 := by
  simp [ixs] at h; omega
/-- A new bill may be retired by its holder, on its day or later. -/
theorem reti_new {r : RegD} {n by_ : ByteArray} {b : BillD} {d : Int} (hat : r.at? n = some (newEnt b by_)) (hd : dayB d = true) (hi : b.issued ≤ d) : actC r (retiA n by_ d) = 0 := by
  rw [reti_actC]
  unfold askC
  rw [show (retiA n by_ d).ask.bill = n from rfl, hat]
  refine ask_iff.2 ⟨?_, rfl, fun k hk => ?_, fun _ => ⟨hd, fun k hk => ?_⟩, fun h => ?_⟩
  · rw [reti_ask]; simp [ixs]
  · rw [reti_ask] at hk ⊢
    rw [until_new b by_ k (ixs3 hk)]; exact ⟨rfl, rfl⟩
  · rw [reti_ask] at hk ⊢
    rw [until_new b by_ k (ixs3 hk)]; exact hi
  · rw [reti_ask] at h; cases h
/-- Nothing that retires a bill that is ended is done. -/
theorem call_dead {k : Nat} {r : RegD} (hG : Good k r) {c : Int × List ActD} {by_ : ByteArray} {day : Int} {P : List ByteArray} {N : List BillD} (hA : c.1 = 0 → ActL r c by_ day P N) (hb : by_.size ≤ maxLen) {n : ByteArray} (hn : n ∈ P) {e : EntD} (he : r.at? n = some e) (hs : e.state ≠ 0) : callC r c ≠ 0 := by
  intro h
  obtain ⟨h1, h2, _⟩ := callC_zero h
  have hA := hA h1
  rw [hA.eq] at h2
  obtain ⟨e', g1, _, g2, _⟩ := (gone hG hb hA.ok h2).1.old n hn
  rw [he] at g1; cases g1
  exact hs g2
theorem switch_dead {k : Nat} {r : RegD} (hG : Good k r) {bill by_ number shipper frm : ByteArray} {day : Int} (h1 : bill.size ≤ maxLen) (h0 : by_.size ≤ maxLen) (h2 : number.size ≤ maxLen) (h3 : shipper.size ≤ maxLen) (h4 : frm.size ≤ maxLen)
    {e : EntD} (he : r.at? bill = some e) (hs : e.state ≠ 0) : callC r (switchC r bill by_ number shipper frm day) ≠ 0 := by
  intro h
  obtain ⟨x, _, hA⟩ := switch_act hG (callC_zero h).1 (by_ := by_) h1 h2 h3 h4
  exact call_dead hG (fun _ => hA) h0 (by simp) he hs h
theorem join_dead {k : Nat} {r : RegD} (hG : Good k r) {bills : List ByteArray} {by_ number : ByteArray} {day : Int} (h1 : ∀ x ∈ bills, x.size ≤ maxLen) (h0 : by_.size ≤ maxLen) (h2 : number.size ≤ maxLen) {n : ByteArray} (hn : n ∈ bills)
    {e : EntD} (he : r.at? n = some e) (hs : e.state ≠ 0) : callC r (joinC r bills by_ number day) ≠ 0 := by
  intro h
  obtain ⟨x, xs, _, _, hA⟩ := join_act hG (callC_zero h).1 (by_ := by_) h1 h2
  exact call_dead hG (fun _ => hA) h0 hn he hs h
theorem split_dead {k : Nat} {r : RegD} (hG : Good k r) {bill by_ : ByteArray} {parts : List (List ByteArray)} {numbers : List ByteArray} {day : Int} (h1 : bill.size ≤ maxLen) (h0 : by_.size ≤ maxLen) (h2 : ∀ p ∈ parts, ∀ x ∈ p, x.size ≤ maxLen) (h3 : ∀ x ∈ numbers, x.size ≤ maxLen)
    {e : EntD} (he : r.at? bill = some e) (hs : e.state ≠ 0) : callC r (splitC r bill by_ parts numbers day) ≠ 0 := by
  intro h
  obtain ⟨N, hA, _⟩ := split_act hG (callC_zero h).1 (by_ := by_) h1 h2 h3
  exact call_dead hG (fun _ => hA) h0 (by simp) he hs h
/-- The bills that an act retires. -/
def goneL (a : SActD) : List ByteArray := if a.kind.tmod 3 = 1 then a.names else [a.bill]
theorem call_actP {k : Nat} {r : RegD} (hG : Good k r) {a : SActD} (ha : a.Ok) (h : (callD r a).1 = 0) : ∃ N, ActL r (callD r a) a.by_ a.day (goneL a) N := by
  unfold callD at h ⊢
  unfold goneL
  split at h
  · next h0 =>
    rw [if_pos h0, if_neg (by omega)]
    obtain ⟨N, hN, _⟩ := split_act hG h ha.bill ha.parts ha.names
    exact ⟨N, hN⟩
  · next h0 =>
    rw [if_neg h0]
    split at h
    · next h1 =>
      rw [if_pos h1, if_pos h1]
      obtain ⟨x, xs, _, _, hN⟩ := join_act hG h ha.names ha.number
      exact ⟨_, hN⟩
    · next h1 =>
      rw [if_neg h1, if_neg h1]
      obtain ⟨x, _, hN⟩ := switch_act hG h ha.bill ha.number ha.shipper ha.frm
      exact ⟨_, hN⟩
theorem call_gone {k : Nat} {r : RegD} (hG : Good k r) {a : SActD} (ha : a.Ok) (h : callC r (callD r a) = 0) : ∃ N, GoneP k r (callR r (callD r a)) (goneL a) a.by_ N := by
  obtain ⟨h1, h2, h3⟩ := callC_zero h
  obtain ⟨N, hA⟩ := call_actP hG ha h1
  rw [hA.eq] at h2
  rw [h3, hA.eq]
  exact ⟨N, (gone hG ha.by_ hA.ok h2).1⟩
/-! ### There and back. -/
def half1 : ByteArray := ⟨#[104, 97, 108, 102, 45, 49]⟩
def half2 : ByteArray := ⟨#[104, 97, 108, 102, 45, 50]⟩
def whole : ByteArray := ⟨#[119, 104, 111, 108, 101]⟩
theorem nodup_once : ∀ {l : List ByteArray}, l.Nodup → onceB l = true
  | [], _ => rfl
  | x :: l, h => by
    obtain ⟨h1, h2⟩ := List.nodup_cons.1 h
    simp only [onceB, Bool.and_eq_true, Bool.not_eq_true', List.any_eq_false, decide_eq_true_eq]
    exact ⟨fun y hy e => h1 (e ▸ hy), nodup_once h2⟩
theorem once_nd : ∀ {l : List ByteArray}, onceB l = true → l.Nodup
  | [], _ => List.nodup_nil
  | x :: l, h => by
    simp only [onceB, Bool.and_eq_true, Bool.not_eq_true', List.any_eq_false, decide_eq_true_eq] at h
    exact List.nodup_cons.2 ⟨fun hm => h.1 x hm rfl, once_nd h.2⟩
theorem may_split {c : ByteArray} {b : BillD} : mayB c b = true ↔ (nameB b.number = true ∧ nameB b.shipper = true ∧ nameB b.frm = true ∧ nameB b.to_ = true ∧ b.carrier = c) ∧ (b.boxes.all rightB = true ∧ onceB b.boxes = true ∧ 1 ≤ b.boxes.length ∧ b.boxes.length ≤ 64) ∧ b.parents.length ≤ 64 ∧ b.parents.all nameB = true ∧ dayB b.issued = true := by
  unfold mayB
  simp only [Bool.and_eq_true, decide_eq_true_eq]
  constructor
  · rintro ⟨⟨⟨⟨a1, a2⟩, a3⟩, a4⟩, a5, ⟨⟨a6, a7⟩, a8, a9⟩, a10, a11, a12⟩
    exact ⟨⟨a1, a2, a3, a4, a5⟩, ⟨a6, a7, a8, a9⟩, a10, a11, a12⟩
  · rintro ⟨⟨a1, a2, a3, a4, a5⟩, ⟨a6, a7, a8, a9⟩, a10, a11, a12⟩
    exact ⟨⟨⟨⟨a1, a2⟩, a3⟩, a4⟩, a5, ⟨⟨a6, a7⟩, a8, a9⟩, a10, a11, a12⟩
theorem boxed_iff {r : RegD} {x : ByteArray} : r.boxed x = true ↔ r.liveX x := by
  unfold RegD.boxed RegD.liveX
  rw [List.any_eq_true]
  constructor
  · rintro ⟨e, he, h⟩
    unfold EntD.has at h
    simp only [Bool.and_eq_true, decide_eq_true_eq, List.any_eq_true] at h
    obtain ⟨h1, y, hy, rfl⟩ := h
    exact ⟨e, he, h1, hy⟩
  · rintro ⟨e, he, h1, h2⟩
    exact ⟨e, he, by simp only [EntD.has, h1, decide_true, Bool.true_and]; exact List.any_eq_true.2 ⟨x, h2, by simp⟩⟩
/-- What a split into two leaves. -/
theorem back_split {k : Nat} {r : RegD} (hG : Good k r) {bill by_ : ByteArray} {p q : List ByteArray} {day : Int} (h1 : bill.size ≤ maxLen) (h0 : by_.size ≤ maxLen) (h2 : ∀ s ∈ [p, q], ∀ x ∈ s, x.size ≤ maxLen) (h : callC r (splitC r bill by_ [p, q] [half1, half2] day) = 0) :
    ∃ x, r.at? bill = some x ∧ (p ++ q).Perm x.bill.boxes ∧ dayB day = true ∧ GoneP k r (callR r (splitC r bill by_ [p, q] [half1, half2] day)) [bill] by_ [nextB x.bill half1 p [bill] day, nextB x.bill half2 q [bill] day] := by
  obtain ⟨c1, c2, c3⟩ := callC_zero h
  obtain ⟨N, hA, x, hat, hp, _, _, hN⟩ := split_act hG c1 (by_ := by_) h1 h2 (by intro x hx; simp at hx; rcases hx with rfl | rfl <;> decide)
  rw [hA.eq] at c2
  rw [c3, hA.eq]
  obtain ⟨hg, hd⟩ := gone hG h0 hA.ok c2
  refine ⟨x, hat, by simpa using hp.2, hd (by simp), ?_⟩
  have e : N = [nextB x.bill half1 p [bill] day, nextB x.bill half2 q [bill] day] := by rw [hN]; rfl
  rw [e] at hg
  rw [e]; exact hg
set_option maxHeartbeats 1000000 in
/-- The two halves are joined again, where there is no bill of that number. -/
theorem back_join {k : Nat} {r r1 : RegD} (hG : Good k r) (hG1 : Good (k + 65) r1) {bill by_ : ByteArray} {p q : List ByteArray} {day : Int} {x : EntD} (h0 : by_.size ≤ maxLen) (hat : r.at? bill = some x) (hp : (p ++ q).Perm x.bill.boxes) (hd : dayB day = true) (hl : r.l.length ≤ 200)
    (hg : GoneP k r r1 [bill] by_ [nextB x.bill half1 p [bill] day, nextB x.bill half2 q [bill] day]) (hcr : r1.carrier = r.carrier) (hw : r1.at? whole = none) : callC r1 (joinC r1 [half1, half2] by_ whole day) = 0 := by
  have a1 := (hg.new _ (List.mem_cons_self)).2.2.2
  have a2 := (hg.new (nextB x.bill half2 q [bill] day) (by simp)).2.2.2
  have a3 := hg.new _ (List.mem_cons_self)
  replace a1 : r1.at? half1 = some (newEnt (nextB x.bill half1 p [bill] day) by_) := a1
  replace a2 : r1.at? half2 = some (newEnt (nextB x.bill half2 q [bill] day) by_) := a2
  obtain ⟨L, hL⟩ : ∃ L, L = [retiA half1 by_ day, retiA half2 by_ day, issA (nextB (nextB x.bill half1 p [bill] day) whole (p ++ q) [half1, half2] day) by_] := ⟨_, rfl⟩
  have ej : joinC r1 [half1, half2] by_ whole day = (0, L) := by
    have e : [half1, half2].filterMap r1.at? = [newEnt (nextB x.bill half1 p [bill] day) by_, newEnt (nextB x.bill half2 q [bill] day) by_] := by simp [List.filterMap_cons, a1, a2]
    unfold joinC
    rw [if_neg, if_neg, e]
    · dsimp only
      rw [if_neg]
      · rw [hL]
        simp [newEnt, nextB]
      · rintro ⟨y, hy, h⟩
        rw [List.mem_singleton.1 hy] at h
        exact h ⟨rfl, rfl, rfl, rfl⟩
    · rintro ⟨n, hn, h⟩
      simp at hn
      rcases hn with rfl | rfl
      · rw [a1] at h; cases h
      · rw [a2] at h; cases h
    · simp only [not_or, Decidable.not_not]
      exact ⟨by decide, by decide, by decide⟩
  rw [ej]
  show stepsC r1 L = 0
  rw [hL]
  have s1 : actC r1 (retiA half1 by_ day) = 0 := reti_new a1 hd (Int.le_refl _)
  have b2 : (doA r1 (retiA half1 by_ day)).at? half2 = some (newEnt (nextB x.bill half2 q [bill] day) by_) := by rw [at_reti_ne (by decide)]; exact a2
  have s2 : actC (doA r1 (retiA half1 by_ day)) (retiA half2 by_ day) = 0 := reti_new b2 hd (Int.le_refl _)
  have hk1 := reti_kind half1 by_ day
  have hG2 : Good (k + 66) (doA r1 (retiA half1 by_ day)) := good_do hG1 (by omega) zeroB_ok (Nat.zero_le _)
  have hm := (hG.ent x (at_mem hat)).may
  obtain ⟨_, m1, m2, _⟩ := a3
  have s3 : actC (doA (doA r1 (retiA half1 by_ day)) (retiA half2 by_ day)) (issA (nextB (nextB x.bill half1 p [bill] day) whole (p ++ q) [half1, half2] day) by_) = 0 := by
    rw [iss_actC]
    unfold issueC
    have carr : (doA (doA r1 (retiA half1 by_ day)) (retiA half2 by_ day)).carrier = r.carrier := by rw [do_carrier, do_carrier, hcr]
    have may : mayB r.carrier (nextB (nextB x.bill half1 p [bill] day) whole (p ++ q) [half1, half2] day) = true := by
      obtain ⟨⟨_, c2, c3, c4, c5⟩, _⟩ := may_split.1 m1
      obtain ⟨_, ⟨d1, d2, d3, d4⟩, _⟩ := may_split.1 hm
      refine may_split.2 ⟨⟨by kernel_rfl, c2, c3, c4, c5⟩, ⟨?_, ?_, ?_, ?_⟩, (show (2 : Nat) ≤ 64 by decide), by kernel_rfl, hd⟩
      · rw [List.all_eq_true] at d1 ⊢
        intro z hz
        exact d1 z (hp.mem_iff.1 hz)
      · exact nodup_once (hp.nodup_iff.2 (once_nd d2))
      · show 1 ≤ (p ++ q).length
        rw [hp.length_eq]; exact d3
      · show (p ++ q).length ≤ 64
        rw [hp.length_eq]; exact d4
    rw [carr, may, m2, if_neg (by simp), if_neg, if_neg, if_neg]
    · rw [reti_doA s2, upd_len, reti_doA s1, upd_len, hg.len]
      simp; omega
    · intro h
      obtain ⟨z, hz, hzb⟩ := List.any_eq_true.1 h
      rw [boxed_iff, live_reti hG2 s2 b2, live_reti hG1 s1 a1] at hzb
      have hz : z ∈ p ++ q := hz
      rcases List.mem_append.1 hz with h | h
      · exact hzb.1.2 h
      · exact hzb.2 h
    · show ¬ ((doA (doA r1 (retiA half1 by_ day)) (retiA half2 by_ day)).at? whole).isSome = true
      rw [at_reti_ne (show whole ≠ half2 by decide), at_reti_ne (show whole ≠ half1 by decide)]
      show ¬ (r1.at? whole).isSome = true
      rw [hw]; simp
  simp only [stepsC, s1, s2, s3, if_true]
/-- What is joined again. -/
theorem back_whole {k k0 : Nat} {r r1 : RegD} (hG1 : Good k r1) {bill by_ : ByteArray} {p q : List ByteArray} {day : Int} {x : EntD} (h0 : by_.size ≤ maxLen)
    (hg : GoneP k0 r r1 [bill] by_ [nextB x.bill half1 p [bill] day, nextB x.bill half2 q [bill] day]) (h : callC r1 (joinC r1 [half1, half2] by_ whole day) = 0) :
    (callR r1 (joinC r1 [half1, half2] by_ whole day)).at? whole = some (newEnt (nextB (nextB x.bill half1 p [bill] day) whole (p ++ q) [half1, half2] day) by_) := by
  have a1 := (hg.new _ (List.mem_cons_self)).2.2.2
  have a2 := (hg.new (nextB x.bill half2 q [bill] day) (by simp)).2.2.2
  replace a1 : r1.at? half1 = some (newEnt (nextB x.bill half1 p [bill] day) by_) := a1
  replace a2 : r1.at? half2 = some (newEnt (nextB x.bill half2 q [bill] day) by_) := a2
  have e : [half1, half2].filterMap r1.at? = [newEnt (nextB x.bill half1 p [bill] day) by_, newEnt (nextB x.bill half2 q [bill] day) by_] := by simp [List.filterMap_cons, a1, a2]
  obtain ⟨c1, c2, c3⟩ := callC_zero h
  obtain ⟨y, ys, hf, _, hA⟩ := join_act hG1 c1 (by_ := by_) (by intro x hx; simp at hx; rcases hx with rfl | rfl <;> decide) (by decide)
  rw [e] at hf
  cases hf
  rw [hA.eq] at c2
  rw [c3, hA.eq]
  have := ((gone hG1 h0 hA.ok c2).1.new _ List.mem_cons_self).2.2.2
  have e2 : ([newEnt (nextB x.bill half1 p [bill] day) by_, newEnt (nextB x.bill half2 q [bill] day) by_].flatMap fun y => y.bill.boxes) = p ++ q := by simp [newEnt, nextB]
  rw [e2] at this
  rw [e2]
  exact this
end Go.Proofs.YtnglkhnfmbnfeaaGreat

/- Uf -/
namespace Go.Proofs.YtnglkhnfmbnfeaaGreat
open Go Go.SK

theorem Mut.new {w0 w w' : World} {p m : Nat} {gs : List GhostE} {r' : RegD} (h : Mut w p m gs r' w') (hx : Ex w0 w) (hn : ∀ b ∈ foot p m gs, w0.heap.size ≤ b) : Ex w0 w' := hx.up_new h.ext hn
theorem foot_new {w0 w : World} {p m : Nat} {gs gs' : List GhostE} (hx : Ex w0 w) (hn : ∀ b ∈ foot p m gs, w0.heap.size ≤ b) (h : ∀ b ∈ foot p m gs', b ∈ foot p m gs ∨ w.heap.size ≤ b) : ∀ b ∈ foot p m gs', w0.heap.size ≤ b := fun b hb => by
  rcases h b hb with h | h
  · exact hn b h
  · have := hx.size; omega
theorem sls_two {w : World} {b1 b2 b3 : Nat} {x y : ByteArray} {e : Nat} (h1 : Blk w b1 [.string x] 9) (h2 : Blk w b2 [.string y] 9) (h3 : Blk w b3 [.slice (some ⟨b1, 0, none⟩) 1 1, .slice (some ⟨b2, 0, none⟩) 1 1] e) : SlsAt (fun _ => True) w (.slice (some ⟨b3, 0, none⟩) 2 2) [[x], [y]] := by
  refine ⟨⟨_, 2, rfl, fun i hi => ?_⟩, (show (2 : Nat) ≤ maxLen by decide), fun p n c h e => by cases h; cases e⟩
  match i, hi with
  | 0, _ => exact ⟨b3, 0, _, rfl, trivial, h3.rd 0 1, sls_of_blk (l := [x]) h1 (show (1 : Nat) ≤ maxLen by decide)⟩
  | 1, _ => exact ⟨b3, 0, _, rfl, trivial, h3.rd 1 1, sls_of_blk (l := [y]) h2 (show (1 : Nat) ≤ maxLen by decide)⟩
set_option maxHeartbeats 8000000 in
theorem l24_awake (w : World) : Ret Tryz.prog 10 [] w fun v w' => v = .bool true ∧ Ex w w' := by
  refine ret_of Tryz.func10 Tryz.ntmps10 rfl rfl rfl ?_
  (repeat (first | refine lw_pure hT rfl ?_ | refine lw_nil ?_ | refine cw_seq ?_ | refine cw_region ?_ | refine qw_then ?_))
  refine lw_call hT rfl rfl (reg_New w ⟨#[99]⟩) ?_
  rintro _ w1 ⟨p, m, rfl, hR, hp, hm, hx1⟩
  have n1 : ∀ b ∈ foot p m [], w.heap.size ≤ b := by
    intro b hb
    rcases foot_mem.1 hb with rfl | rfl | ⟨i, g, h1, _⟩
    · exact hp
    · exact hm
    · simp at h1
  (repeat (first | refine lw_pure hT rfl ?_ | refine lw_nil ?_ | refine cw_seq ?_ | refine cw_region ?_ | refine qw_then ?_ | (refine lw_gon_f rfl ?_ ?_; focus (first | with_reducible rfl | with_reducible exact Bool.not_false | with_reducible exact Bool.not_true)) | refine lw_eqp_some hT rfl rfl ?_))
  refine lw_buildSlice sl31 rfl rfl rfl ?_
  intro b2 w2 hbb2 hb2 hx2 hs2
  (repeat (refine lw_gon_f rfl ?_ ?_; focus (first | with_reducible rfl | with_reducible exact Bool.not_false | with_reducible exact Bool.not_true)))
  refine lw_build bt33 rfl ?_
  (repeat (refine lw_gon_f rfl ?_ ?_; focus (first | with_reducible rfl | with_reducible exact Bool.not_false | with_reducible exact Bool.not_true)))
  have hB : SlS (fun _ => True) w2 (.slice (some ⟨b2, 0, none⟩) 2 2) sB.boxes := sls_of_blk (l := sB.boxes) hb2 (by decide)
  refine lw_call hT rfl rfl (reg_Issue (b := sB) (vp := .slice none 0 0) (hR.ex hx2) hB (Sl.nil (fun _ => True) _ _) s_ok sa (by decide)) ?_
  rintro _ w3 ⟨rfl, hm3⟩
  obtain ⟨gs3, hR3, hf3⟩ := hm3.is
  rw [show issueC { carrier := { data := #[99] }, l := [] } sB sa = 0 from s_c0]
  replace hR3 : Rep w3 p sR0 m gs3 := hR3
  have hx03 := hm3.new (hx1.trans hx2) n1
  have n3 := foot_new (hx1.trans hx2) n1 hf3
  (repeat (first | refine lw_pure hT rfl ?_ | refine lw_nil ?_ | refine qw_then ?_ | (refine lw_gon_f rfl ?_ ?_; focus (first | with_reducible rfl | with_reducible exact Bool.not_false | with_reducible exact Bool.not_true))))
  refine cw_cond rfl (fun e => absurd e (by decide)) (fun _ => ?_)
  (repeat (first | refine lw_pure hT rfl ?_ | refine cw_seq ?_ | refine cw_region ?_ | refine qw_then ?_ | refine cw_skip ?_))
  refine lw_buildSlice sl31 rfl rfl rfl ?_
  intro b22 w4 hbb4 hb4 hx4 hs4
  (repeat (refine lw_pure hT rfl ?_))
  refine lw_buildSlice sl31 rfl rfl rfl ?_
  intro b24 w5 hbb5 hb5 hx5 hs5
  skip
  refine lw_buildSlice sl39 rfl rfl rfl ?_
  intro b25 w6 hbb6 hb6 hx6 hs6
  skip
  refine lw_buildSlice sl31 rfl rfl rfl ?_
  intro b26 w7 hbb7 hb7 hx7 hs7
  have hx37 := ((hx4.trans hx5).trans hx6).trans hx7
  have hp7 : SlsAt (fun _ => True) w7 (.slice (some ⟨b25, 0, none⟩) 2 2) [[sy], [sx]] := sls_two (((hb4.ex hx5).ex hx6).ex hx7) ((hb5.ex hx6).ex hx7) (hb6.ex hx7)
  have hn7 : SlS (fun _ => True) w7 (.slice (some ⟨b26, 0, none⟩) 2 2) [sn2, sn3] := sls_of_blk (l := [sn2, sn3]) hb7 (by decide)
  skip
  refine lw_call hT rfl rfl (spl_Split (hR3.ex hx37) s_good0 (by decide) sn1 sa 1 hp7 hn7 (by decide) (by decide) (by intro x hx; simp at hx; rcases hx with rfl | rfl <;> decide) (by intro q hq x hx; simp at hq; rcases hq with rfl | rfl <;> simp at hx <;> subst hx <;> decide) (by intro q hq; simp at hq; rcases hq with rfl | rfl <;> simp) (by decide)) ?_
  rintro _ w8 ⟨rfl, hm8⟩
  rw [s_calls.1]
  obtain ⟨gs8, hR8, hf8⟩ := hm8.is
  rw [s_calls.2.1] at hR8
  have hx08 := hm8.new (hx03.trans hx37) n3
  have n8 := foot_new (hx03.trans hx37) n3 hf8
  have hG1 : Good 66 sR1 := by
    have := good_steps s_good0 (l := sL1) (by
      intro a ha
      simp [sL1] at ha
      rcases ha with rfl | rfl | rfl
      · exact retiA_ok (by decide) (by decide)
      · exact issA_ok (nextB_ok s_ok (by decide) (by intro x hx; simp at hx; subst hx; decide) (by intro x hx; simp at hx; subst hx; decide)) (by decide)
      · exact issA_ok (nextB_ok s_ok (by decide) (by intro x hx; simp at hx; subst hx; decide) (by intro x hx; simp at hx; subst hx; decide)) (by decide))
    have e : stepsR sR0 sL1 = sR1 := by unfold stepsR; rw [if_pos s_c1]; rfl
    rw [e] at this
    exact this.mono (by decide)
  (repeat (first | refine lw_pure hT rfl ?_ | refine lw_nil ?_ | refine cw_seq ?_ | refine cw_region ?_ | refine qw_then ?_))
  refine lw_buildSlice sl31 rfl rfl rfl ?_
  intro b29 w9 hbb9 hb9 hx9 hs9
  have hn9 : SlS (fun _ => True) w9 (.slice (some ⟨b29, 0, none⟩) 2 2) [sn2, sn3] := sls_of_blk (l := [sn2, sn3]) hb9 (by decide)
  skip
  refine lw_call hT rfl rfl (spl_Join (hR8.ex hx9) hG1 (by decide) sa sn4 2 hn9 (by intro x hx; simp at hx; rcases hx with rfl | rfl <;> decide) (by decide) (by decide)) ?_
  rintro _ w10 ⟨rfl, hm10⟩
  rw [s_calls.2.2.1]
  obtain ⟨gs10, hR10, hf10⟩ := hm10.is
  rw [s_calls.2.2.2] at hR10
  have hx010 := hm10.new (hx08.trans hx9) n8
  have hG2 : Good 200 sR2 := by
    have := good_steps hG1 (l := sL2) (by
      intro a ha
      simp [sL2] at ha
      rcases ha with rfl | rfl | rfl
      · exact retiA_ok (by decide) (by decide)
      · exact retiA_ok (by decide) (by decide)
      · exact issA_ok (nextB_ok s_ok (by decide) (by intro x hx; simp at hx; rcases hx with rfl | rfl <;> decide) (by intro x hx; simp at hx; rcases hx with rfl | rfl <;> decide)) (by decide))
    have e : stepsR sR1 sL2 = sR2 := by unfold stepsR; rw [if_pos s_c2]; rfl
    rw [e] at this
    exact this.mono (by decide)
  (repeat (first | refine lw_pure hT rfl ?_ | refine lw_nil ?_ | refine cw_seq ?_ | refine cw_region ?_ | refine qw_then ?_))
  refine lw_call hT rfl rfl (reg_Get hR10 (hG2.small (by decide)) sn4) ?_
  rintro _ w11 ⟨hget, hx11⟩
  unfold GetR at hget
  rw [s_at4] at hget
  obtain ⟨ub, up, rfl, hub, hup⟩ := hget
  replace hub : w11.ownsRow w10.heap.size 9 1 ub [sy, sx].length ([sy, sx].map Value.string) := hub
  have o1 := own_one hub
  have o2 := own_one hup
  (repeat (refine lw_pure hT rfl ?_))
  refine lw_alloc z33 ?_
  intro b6 w12 hbb12 hb12 hx12 hs12
  skip
  refine lw_store_agg hT rfl rfl rfl rfl (encB_one (A := fun _ => True) (w := w) o1 o2) hb12 (show (9 : Nat) ≤ 9 by decide) ?_
  intro w13 hb13 hx13 hs13
  replace hb13 : Blk w13 b6 (encB sE4.bill ub up) 33 := hb13
  have hx1113 : Ex w11 w13 := hx12.up_new hx13 (fun i h => by omega)
  have hx013 := (hx010.trans hx11).trans hx1113
  have hR13 := (hR10.ex hx11).ex hx1113
  have hub13 := own_ex hub hx1113
  (repeat (first | refine lw_pure hT rfl ?_ | refine lw_nil ?_ | refine cw_seq ?_ | refine cw_region ?_ | refine qw_then ?_))
  refine lw_guard rfl (fun _ => ?_) (fun h => absurd h (by decide))
  (repeat (first | refine lw_pure hT rfl ?_ | (refine lw_gon_t rfl ?_ ?_; focus (first | with_reducible rfl | with_reducible exact Bool.not_false | with_reducible exact Bool.not_true))))
  refine lw_guard rfl (fun _ => ?_) (fun h => absurd h (by decide))
  (repeat (first | refine lw_pure hT rfl ?_ | (refine lw_gon_t rfl ?_ ?_; focus (first | with_reducible rfl | with_reducible exact Bool.not_false | with_reducible exact Bool.not_true))))
  refine lw_call hT rfl rfl (reg_State hR13 sn1) ?_
  rintro _ _ ⟨rfl, rfl⟩
  rw [s_st1]
  (repeat (first | refine lw_pure hT rfl ?_ | (refine lw_gon_t rfl ?_ ?_; focus (first | with_reducible rfl | with_reducible exact Bool.not_false | with_reducible exact Bool.not_true))))
  refine lw_guard rfl (fun _ => ?_) (fun h => absurd h (by decide))
  (repeat (first | refine lw_pure hT rfl ?_ | (refine lw_gon_t rfl ?_ ?_; focus (first | with_reducible rfl | with_reducible exact Bool.not_false | with_reducible exact Bool.not_true))))
  refine lw_load hT rfl rfl (v := ub) (hb13.cell 5) ?_
  (repeat (first | refine lw_pure hT rfl ?_ | (refine lw_gon_t rfl ?_ ?_; focus (first | with_reducible rfl | with_reducible exact Bool.not_false | with_reducible exact Bool.not_true))))
  refine lw_buildSlice sl31 rfl rfl rfl ?_
  intro b14 w14 hbb14 hb14 hx14 hs14
  have hs14 : SlS (fun _ => True) w14 (.slice (some ⟨b14, 0, none⟩) 2 2) [sy, sx] := sls_of_blk (l := [sy, sx]) hb14 (by decide)
  have hsu : SlS (fun _ => True) w14 ub [sy, sx] := sls_own (own_ex hub13 hx14) fun _ _ => trivial
  (repeat (refine lw_gon_t rfl ?_ ?_; focus (first | with_reducible rfl | with_reducible exact Bool.not_false | with_reducible exact Bool.not_true)))
  refine lw_call hT rfl rfl (r_Same w14 hsu hs14) ?_
  rintro _ w15 ⟨rfl, hx15⟩
  (repeat (refine lw_pure hT rfl ?_))
  refine lw_guard rfl (fun _ => ?_) (fun h => absurd h (by simp))
  (repeat (first | refine lw_pure hT rfl ?_ | (refine lw_gon_t rfl ?_ ?_; focus (first | with_reducible rfl | with_reducible exact Bool.not_false | with_reducible exact Bool.not_true))))
  refine lw_call hT rfl rfl (spl_Parents ((hR13.ex hx14).ex hx15) hG2 (by decide) (by rw [s_R2]; decide) sn4) ?_
  rintro vl w16 ⟨⟨L, hL, hown⟩, hx16⟩
  have eL : L = [sn1, sn2, sn3] := hL.eq ⟨s_rising, fun x => by rw [s_reach]; exact ⟨fun h => ⟨h, fun e => s_ne4 (e ▸ h)⟩, fun h => h.1⟩⟩
  subst eL
  (repeat (refine lw_gon_t rfl ?_ ?_; focus (first | with_reducible rfl | with_reducible exact Bool.not_false | with_reducible exact Bool.not_true)))
  refine lw_buildSlice sl31 rfl rfl rfl ?_
  intro b17 w17 hbb17 hb17 hx17 hs17
  have hs17 : SlS (fun _ => True) w17 (.slice (some ⟨b17, 0, none⟩) 3 3) [sn1, sn2, sn3] := sls_of_blk (l := [sn1, sn2, sn3]) hb17 (by decide)
  have hsl : SlS (fun _ => True) w17 vl [sn1, sn2, sn3] := sls_own (own_ex hown hx17) fun _ _ => trivial
  (repeat (refine lw_gon_t rfl ?_ ?_; focus (first | with_reducible rfl | with_reducible exact Bool.not_false | with_reducible exact Bool.not_true)))
  refine lw_call hT rfl rfl (r_Same w17 hsl hs17) ?_
  rintro _ w18 ⟨rfl, hx18⟩
  (repeat (first | refine lw_pure hT rfl ?_ | refine lw_nil ?_ | refine qw_then ?_ | refine cw_ret ?_))
  exact qw_ret rfl ⟨by simp [oneOr], ((((hx013.trans hx14).trans hx15).trans hx16).trans hx17).trans hx18⟩
end Go.Proofs.YtnglkhnfmbnfeaaGreat

/- Hd -/
namespace Go.SK
open Go
attribute [local semireducible] CW LW QW Ret Kn
section
variable {P : Program} {T : Tab} {n : Nat} {fr : Fr} {S : World → Prop} {ops : Array Oper}
theorem yo_neq_bool {d t : Nat} {a b : Bool} {x y : Operand} {t' : TypeId} {ty : TypeId} {ps : String} {af : Array Edge} (hu : P.underlying t = some .bool) (hx : ev n fr x = some (.bool a)) (hy : ev n fr y = some (.bool b)) :
    YO P ops S n fr { dst := some d, op := .binOp .neq t x y t', type := ty, pos := ps, after := af, guard := none } (.bool (!(a == b))) :=
  yo_run rfl fun a' hk w _ => by
    have hq : (Op.equal t (.bool a) (.bool b)).run P w = .ok (a == b) w := equalIn_bool 9999 hu
    simp only [execOp, ev_sound hk hx, ev_sound hk hy]
    simp [eqGuard, binOp, hq]
end
end Go.SK
namespace Go.Proofs.YtnglkhnfmbnfeaaGreat
open Go Go.SK
theorem orig_self (n : ByteArray) (q : PapD) (i : Nat) : SelfEq Tryz.prog 129 (origRow n q i) :=
  selfEq (ks := [(false, 9, 0), (false, 3, 1), (false, 3, 2), (false, 9, 3)]) (by kernel_rfl) (by kernel_rfl) (by kernel_rfl) (by kernel_rfl) (by
    have us : Tryz.prog.underlying 9 = some .string := by kernel_rfl
    have ui : Tryz.prog.underlying 3 = some (.int .i64) := by kernel_rfl
    intro k hk
    simp at hk
    rcases hk with rfl | rfl | rfl | rfl
    · exact ⟨rfl, .inl ⟨us, _, rfl⟩⟩
    · exact ⟨rfl, .inr ⟨ui, _, rfl⟩⟩
    · exact ⟨rfl, .inr ⟨ui, _, rfl⟩⟩
    · exact ⟨rfl, .inl ⟨us, _, rfl⟩⟩)
theorem fidx_split {α : Type} (p : α → Bool) (l : List α) : (fidx p l = -1 ∧ l.any p = false) ∨ ∃ (i : Nat) (hi : i < l.length), fidx p l = i ∧ p l[i] = true := by
  unfold fidx
  cases h : l.findIdx? p with
  | none => exact .inl ⟨rfl, by rw [List.findIdx?_eq_none_iff] at h; rw [List.any_eq_false]; intro x hx; rw [h x hx]; decide⟩
  | some i =>
    rw [List.findIdx?_eq_some_iff_getElem] at h
    obtain ⟨hi, hp, _⟩ := h
    exact .inr ⟨i, hi, rfl, hp⟩
theorem has_mem {e : EntD} {x : ByteArray} (h : e.has x = true) : e.state = 0 ∧ x ∈ e.bill.boxes := by
  unfold EntD.has at h
  simp only [Bool.and_eq_true, decide_eq_true_eq, List.any_eq_true] at h
  obtain ⟨h1, y, hy, rfl⟩ := h
  exact ⟨h1, hy⟩
/-- The box, as both tell it. -/
theorem box_both {k : Nat} {r : RegD} (hG : Good k r) {x : ByteArray} {v : Value} (h : BoxR r x v) : (fidx (fun e => e.hasF x) r.l = -1 ∧ v = .tuple #[.string ⟨#[]⟩, .bool false]) ∨ ∃ (i : Nat) (hi : i < r.l.length), fidx (fun e => e.hasF x) r.l = i ∧ v = .tuple #[.string r.l[i].bill.number, .bool true] := by
  rcases h with ⟨hv, hb⟩ | ⟨e, he, hh, hv⟩ <;> rcases fidx_split (fun e : EntD => e.hasF x) r.l with ⟨h1, h2⟩ | ⟨i, hi, h1, h2⟩
  · exact .inl ⟨h1, hv⟩
  · rw [hasF_eq] at h2
    unfold RegD.boxed at hb
    rw [List.any_eq_false] at hb
    exact absurd h2 (hb _ (List.getElem_mem hi))
  · rw [List.any_eq_false] at h2
    exact absurd (by rw [hasF_eq]; exact hh) (h2 e he)
  · right
    rw [hasF_eq] at h2
    obtain ⟨j, hj⟩ := List.getElem?_of_mem he
    obtain ⟨s1, m1⟩ := has_mem hh
    obtain ⟨s2, m2⟩ := has_mem h2
    have := hG.box i j r.l[i] e x (List.getElem?_eq_getElem hi) hj s2 s1 m2 m1
    subst this
    rw [List.getElem?_eq_getElem hi] at hj
    cases hj
    exact ⟨i, hi, h1, hv⟩
def thereB (x : EntD) (q : PapD) : Bool := decide (x.state = 0) && (decide (q.state = 0) || decide (q.state = 3))
theorem holder_there {r : RegD} {n : ByteArray} {x : EntD} (h : r.at? n = some x) (h3 : x.ps.length = 3) {i : Nat} (hi : i < 3) : r.holderOf n (i : Int) = if thereB x (papAt x i) then some (papAt x i).holder else none := by
  unfold RegD.holderOf thereB
  rw [pap_of h h3 hi]
  simp only [Bool.and_eq_true, Bool.or_eq_true, decide_eq_true_eq]
set_option maxHeartbeats 8000000 in
theorem l23_UnlikeG {A : Nat → Prop} {w : World} {p m k0 : Nat} {r : RegD} {gs : List GhostE} {vL : Value} {fgs : List FG} (hR : Rep w p r m gs) (hG : Good k0 r) (hk0 : k0 ≤ 1000000) (hl : r.l.length ≤ 256) (hF : FRep A w vL r.l fgs) (who box : ByteArray) :
    Ret Tryz.prog 29 [.pointer (some ⟨p, 0, none⟩), .agg ⟨encR r.carrier vL⟩, .string who, .string box] w fun v w' => v = .string ⟨#[]⟩ ∧ Ex w w' := by
  have hnsz : ∀ e ∈ r.l, e.bill.number.size ≤ maxLen := fun e he => (hG.ent e he).ok.number
  have hsm := hG.small (by omega)
  obtain ⟨aL, cL, hvL, hLm⟩ := hF.slice
  subst hvL
  refine ret_of Tryz.func29 Tryz.ntmps29 rfl rfl rfl ?_
  (repeat (first | refine cw_seq ?_ | refine cw_region ?_))
  refine lw_box rfl ?_
  intro b5 w1 hbb5 hb5 hx1 hs1
  replace hb5 : Blk w1 b5 (encR r.carrier (.slice aL r.l.length cL)) 28 := hb5
  (repeat (first | refine lw_pure hT rfl ?_ | refine lw_nil ?_ | refine cw_seq ?_ | refine qw_then ?_))
  refine cw_draw hM (fun w' => Ex w1 w') [] rfl rfl (by repeat (first | with_reducible refine nop_then ?_ | with_reducible refine nop_block ?_ | with_reducible exact nop_body)) (fun w2 hx2 _ => ⟨hx2, ?_⟩)
  (refine rw_takeP 0 rfl rfl (by kernel_rfl) (by kernel_rfl) (by kernel_rfl) (by kernel_rfl) rfl (yo_pure hT rfl) ?_)
  refine rw_take 2 rfl rfl (by kernel_rfl) (by kernel_rfl) (by kernel_rfl) (by kernel_rfl) rfl (yo_load_agg hT rfl rfl rfl (vs := encR r.carrier (.slice aL r.l.length cL)) (fun w' hS => (hb5.ex hS).rd 0 2)) ?_
  refine rw_one 1 rfl (by kernel_rfl) rfl (fun hcl => ?_)
  have hx02 := hx1.trans hx2
  refine lw_call hT rfl rfl (reg_Bills (hR.ex hx02) hnsz hl) ?_
  rintro vb w3 ⟨⟨L, hL1, hL2, hown⟩, hx3⟩
  have hx13 := hx2.trans hx3
  (repeat (refine lw_nil ?_))
  refine qw_rw (by repeat (first | with_reducible refine nop_then ?_ | with_reducible refine nop_block ?_ | with_reducible exact nop_body)) hcl (fun _ => hx13) ?_
  refine rw_one 3 rfl (by kernel_rfl) rfl (fun hcl => ?_)
  refine lw_call hT rfl rfl (r23_Bills r.carrier (hF.ex (hx1.trans hx13)) hl) ?_
  rintro ub w4 ⟨hub, hx4⟩
  have hx14 := hx13.trans hx4
  (repeat (refine lw_nil ?_))
  refine qw_rw (by repeat (first | with_reducible refine nop_then ?_ | with_reducible refine nop_block ?_ | with_reducible exact nop_body)) hcl (fun _ => hx14) ?_
  refine rw_one 4 rfl (by kernel_rfl) rfl (fun hcl => ?_)
  refine lw_call hT rfl rfl (r_Same w4 ((sls_own (A := fun _ => True) hown fun _ _ => trivial).ex hx4) hub.sls) ?_
  rintro _ w5 ⟨rfl, hx5⟩
  have hx15 := hx14.trans hx5
  rw [decide_eq_true (show L = putAll (r.l.map (·.bill.number)) from bills_eq hG.nd hL1 hL2)]
  (repeat (refine lw_nil ?_))
  refine qw_rw (by repeat (first | with_reducible refine nop_then ?_ | with_reducible refine nop_block ?_ | with_reducible exact nop_body)) hcl (fun _ => hx15) ?_
  (refine rw_takeP 5 rfl rfl (by kernel_rfl) (by kernel_rfl) (by kernel_rfl) (by kernel_rfl) rfl (yo_pure hT rfl) ?_; refine rw_takeP 6 rfl rfl (by kernel_rfl) (by kernel_rfl) (by kernel_rfl) (by kernel_rfl) rfl (yo_pure hT rfl) ?_)
  (refine rw_takeP 7 rfl rfl (by kernel_rfl) (by kernel_rfl) (by kernel_rfl) (by kernel_rfl) rfl (yo_on rfl rfl (yo_pure hT rfl)) ?_; refine rw_takeP 8 rfl rfl (by kernel_rfl) (by kernel_rfl) (by kernel_rfl) (by kernel_rfl) rfl (yo_on rfl rfl (yo_pure hT rfl)) ?_)
  refine rw_take 10 rfl rfl (by kernel_rfl) (by kernel_rfl) (by kernel_rfl) (by kernel_rfl) rfl (yo_on rfl rfl (yo_load_agg hT rfl rfl rfl (vs := encR r.carrier (.slice aL r.l.length cL)) (fun w' hS => (hb5.ex hS).rd 0 2))) ?_
  (refine rw_takeP 11 rfl rfl (by kernel_rfl) (by kernel_rfl) (by kernel_rfl) (by kernel_rfl) rfl (yo_on rfl rfl (yo_pure hT rfl)) ?_)
  refine rw_one 9 rfl (by kernel_rfl) rfl (fun hcl => ?_)
  refine lw_gon_f rfl rfl ?_
  refine lw_call hT rfl rfl (reg_Of (hR.ex (hx1.trans hx15)) hnsz hl who) ?_
  rintro vo w6 ⟨⟨L', hL1', hL2', hown'⟩, hx6⟩
  have hx16 := hx15.trans hx6
  (repeat (refine lw_nil ?_))
  refine qw_rw (by repeat (first | with_reducible refine nop_then ?_ | with_reducible refine nop_block ?_ | with_reducible exact nop_body)) hcl (fun _ => hx16) ?_
  refine rw_one 12 rfl (by kernel_rfl) rfl (fun hcl => ?_)
  refine lw_gon_f rfl rfl ?_
  refine lw_call hT rfl rfl (r23_Of r.carrier who (hF.ex (hx1.trans hx16)) hl) ?_
  rintro uo w7 ⟨huo, hx7⟩
  have hx17 := hx16.trans hx7
  (repeat (refine lw_nil ?_))
  refine qw_rw (by repeat (first | with_reducible refine nop_then ?_ | with_reducible refine nop_block ?_ | with_reducible exact nop_body)) hcl (fun _ => hx17) ?_
  refine rw_one 13 rfl (by kernel_rfl) rfl (fun hcl => ?_)
  refine lw_gon_f rfl rfl ?_
  refine lw_call hT rfl rfl (r_Same w7 ((sls_own (A := fun _ => True) hown' fun _ _ => trivial).ex hx7) huo.sls) ?_
  rintro _ w8 ⟨rfl, hx8⟩
  have hx18 := hx17.trans hx8
  rw [decide_eq_true (of_eq hG.nd who hL1' hL2')]
  (repeat (refine lw_nil ?_))
  refine qw_rw (by repeat (first | with_reducible refine nop_then ?_ | with_reducible refine nop_block ?_ | with_reducible exact nop_body)) hcl (fun _ => hx18) ?_
  (refine rw_takeP 14 rfl rfl (by kernel_rfl) (by kernel_rfl) (by kernel_rfl) (by kernel_rfl) rfl (yo_on rfl rfl (yo_pure hT rfl)) ?_)
  (refine rw_takeP 15 rfl rfl (by kernel_rfl) (by kernel_rfl) (by kernel_rfl) (by kernel_rfl) rfl (yo_pure hT rfl) ?_)
  refine rw_done (by kernel_rfl) ?_
  (repeat (first | refine cw_seq ?_ | refine cw_region ?_ | refine qw_then ?_ | refine cw_skip ?_ | (refine cw_cond_f rfl ?_ ?_; focus (first | with_reducible rfl | with_reducible exact Bool.not_false | with_reducible exact Bool.not_true))))
  have hx08 := hx1.trans hx18
  have hb58 := hb5.ex hx18
  refine lw_load_agg hT rfl rfl rfl (vs := encR r.carrier (.slice aL r.l.length cL)) (hb58.rd 0 2) ?_
  (repeat (refine lw_pure hT rfl ?_))
  refine lw_call hT rfl rfl (r23_Box r.carrier box (hF.ex hx08)) ?_
  rintro _ w9 ⟨rfl, hx9⟩
  have hx09 := hx08.trans hx9
  refine lw_pure hT rfl ?_
  refine lw_nil ?_
  refine qw_then ?_
  refine cw_seq ?_
  refine cw_then_cut (α := ByteArray × Bool × Int) (fun z => [(0, pB p), (2, .string who), (5, pB b5), (9, .int .i64 z.2.2), (10, .string z.1), (11, .bool z.2.1)])
    (fun z w' => Ex w9 w' ∧ (z = (⟨#[]⟩, false, -1) ∨ ∃ (i : Nat) (x : EntD), r.l[i]? = some x ∧ z = (x.bill.number, true, (i : Int)))) ?_ ?_
  · unfold pB
    (repeat (first | refine lw_pure hT rfl ?_ | refine cw_region ?_))
    refine lw_call hT rfl rfl (reg_Box (hR.ex hx09) box) ?_
    rintro vbx w10 ⟨hbox, hx10⟩
    rcases box_both hG hbox with ⟨hf, rfl⟩ | ⟨ib, hib, hf, rfl⟩ <;> rw [hf]
    · (repeat (first | refine lw_pure hT rfl ?_ | refine lw_nil ?_))
      exact qw_cut (⟨#[]⟩, false, -1) (by repeat (first | exact trivial | refine ⟨rfl, ?_⟩)) ⟨hx10, .inl rfl⟩
    · (repeat (first | refine lw_pure hT rfl ?_ | refine lw_nil ?_))
      exact qw_cut (r.l[ib].bill.number, true, (ib : Int)) (by repeat (first | exact trivial | refine ⟨rfl, ?_⟩)) ⟨hx10, .inr ⟨ib, r.l[ib], List.getElem?_eq_getElem hib, rfl⟩⟩
  rintro z w10 ⟨hx10, hz⟩
  have hx010 := hx09.trans hx10
  have hb510 := (hb58.ex hx9).ex hx10
  refine qw_then ?_
  refine cw_seq ?_
  refine cw_then_cut (α := Unit) (fun _ => [(0, pB p), (2, .string who), (5, pB b5)]) (fun _ w' => w10 = w') ?_ ?_
  · unfold pB
    rcases hz with rfl | ⟨i, x, hi, rfl⟩
    · refine cw_sub (fr' := [(0, .pointer (some ⟨p, 0, none⟩)), (2, .string who), (5, .pointer (some ⟨b5, 0, none⟩)), (9, .int .i64 (-1)), (10, .string ⟨#[]⟩), (11, .bool false)]) (by repeat (first | exact trivial | refine ⟨rfl, ?_⟩)) ?_
      (repeat (first | refine lw_pure hT rfl ?_ | refine cw_seq ?_ | refine cw_region ?_))
      refine lw_neq_bool (by kernel_rfl) rfl rfl ?_
      (repeat (refine lw_pure hT rfl ?_))
      refine lw_guard rfl (fun e => absurd e (by decide)) (fun _ => ?_)
      (repeat (first | refine lw_pure hT rfl ?_ | refine lw_nil ?_ | refine qw_then ?_ | (refine lw_gon_t rfl ?_ ?_; focus (first | with_reducible rfl | with_reducible exact Bool.not_false | with_reducible exact Bool.not_true)) | (refine lw_goff_f rfl ?_ ?_; focus (first | with_reducible rfl | with_reducible exact Bool.not_false | with_reducible exact Bool.not_true)) | (refine lw_gon_f rfl ?_ ?_; focus (first | with_reducible rfl | with_reducible exact Bool.not_false | with_reducible exact Bool.not_true))))
      refine cw_cond rfl (fun e => absurd e (by decide)) (fun _ => ?_)
      (repeat (refine cw_skip ?_))
      exact qw_cut () (by repeat (first | exact trivial | refine ⟨rfl, ?_⟩)) rfl
    · have hil := (List.getElem?_eq_some_iff.1 hi).1
      obtain ⟨x1, g, bL, oL, cL', hx_, hg_, hv, hrd, hE⟩ := (hF.ex hx010).row hil
      cases hv
      rw [hi] at hx_; cases hx_
      have hge : decide ((i : Int) ≥ 0) = true := by simp
      refine cw_sub (fr' := [(0, .pointer (some ⟨p, 0, none⟩)), (2, .string who), (5, .pointer (some ⟨b5, 0, none⟩)), (9, .int .i64 (i : Nat)), (10, .string x.bill.number), (11, .bool true)]) (by repeat (first | exact trivial | refine ⟨rfl, ?_⟩)) ?_
      (repeat (first | refine lw_pure hT rfl ?_ | refine cw_seq ?_ | refine cw_region ?_))
      refine lw_neq_bool (by kernel_rfl) rfl rfl ?_
      (repeat (refine lw_pure hT rfl ?_))
      refine lw_guard rfl (fun e => by exfalso; revert e; rw [hge]; decide) (fun _ => ?_)
      (repeat (first | refine lw_pure hT rfl ?_ | (refine lw_gon_t rfl ?_ ?_; focus (first | with_reducible rfl | with_reducible exact Bool.not_false | with_reducible exact Bool.not_true)) | (refine lw_gon_f rfl ?_ ?_; focus (first | with_reducible rfl | with_reducible exact Bool.not_false | with_reducible exact Bool.not_true))))
      refine lw_load hT rfl rfl (v := .slice (some ⟨bL, oL, none⟩) r.l.length cL) (hb510.cell 1) ?_
      (repeat (first | refine lw_pure hT rfl ?_ | (refine lw_gon_t rfl ?_ ?_; focus (first | with_reducible rfl | with_reducible exact Bool.not_false | with_reducible exact Bool.not_true))))
      refine lw_index hT rfl rfl rfl i rfl hil ?_
      (repeat (first | refine lw_pure hT rfl ?_ | (refine lw_gon_t rfl ?_ ?_; focus (first | with_reducible rfl | with_reducible exact Bool.not_false | with_reducible exact Bool.not_true))))
      refine lw_load hT rfl rfl (v := .string x.bill.number) (hrd 0 _ rfl) ?_
      (repeat (first | refine lw_pure hT rfl ?_ | (refine lw_gon_t rfl ?_ ?_; focus (first | with_reducible rfl | with_reducible exact Bool.not_false | with_reducible exact Bool.not_true)) | (refine lw_gon_f rfl ?_ ?_; focus (first | with_reducible rfl | with_reducible exact Bool.not_false | with_reducible exact Bool.not_true))))
      refine lw_guard rfl (fun e => absurd rfl (of_decide_eq_true e)) (fun _ => ?_)
      (repeat (first | refine lw_pure hT rfl ?_ | refine lw_nil ?_ | refine qw_then ?_ | refine cw_skip ?_ | (refine lw_goff_f rfl ?_ ?_; focus (first | with_reducible rfl | with_reducible exact Bool.not_false | with_reducible exact Bool.not_true)) | (refine lw_gon_f rfl ?_ ?_; focus (first | with_reducible rfl | with_reducible exact Bool.not_false | with_reducible exact Bool.not_true)) | (refine cw_cond_f rfl ?_ ?_; focus (first | with_reducible rfl | with_reducible exact Bool.not_false | with_reducible exact Bool.not_true))))
      exact qw_cut () (by repeat (first | exact trivial | refine ⟨rfl, ?_⟩)) rfl
  rintro _ _ rfl
  unfold pB
  (repeat (first | refine lw_pure hT rfl ?_ | refine lw_nil ?_ | refine cw_seq ?_ | refine cw_region ?_ | refine qw_then ?_ | refine cw_block ?_))
  refine cw_loop (fun i : Nat => [(0, .pointer (some ⟨p, 0, none⟩)), (2, .string who), (5, .pointer (some ⟨b5, 0, none⟩)), (12, .int .i64 (i : Nat))]) (fun i w' => i ≤ r.l.length ∧ Ex w10 w') (fun i => r.l.length - i) 0 (by repeat (first | exact trivial | refine ⟨rfl, ?_⟩)) ⟨Nat.zero_le _, Ext.refl _ _⟩ ?_
  rintro i w3 ⟨hi, hx103⟩
  have hx03 := hx010.trans hx103
  have hb53 := hb510.ex hx103
  (repeat (first | refine lw_pure hT rfl ?_ | refine cw_seq ?_ | refine cw_region ?_))
  refine lw_load hT rfl rfl (v := .slice aL r.l.length cL) (hb53.cell 1) ?_
  (repeat (first | refine lw_pure hT rfl ?_ | refine lw_nil ?_ | refine qw_then ?_))
  refine cw_cond rfl (fun e => ?_) (fun e => ?_)
  · have hlt : i < r.l.length := by have := of_decide_eq_true e; omega
    obtain ⟨x, g, bL, oL, cL', hx_, hg_, hv, hrd, hE⟩ := (hF.ex hx03).row hlt
    cases hv
    have hxm := List.mem_of_getElem? hx_
    have hatx := at_self hG.nd hxm
    have h3 := (hG.ent x hxm).three
    (repeat (first | refine lw_pure hT rfl ?_ | refine cw_seq ?_ | refine cw_region ?_ | refine qw_then ?_ | refine cw_skip ?_ | refine cw_block ?_))
    refine lw_load hT rfl rfl (v := .slice (some ⟨bL, oL, none⟩) r.l.length cL) (hb53.cell 1) ?_
    (repeat (refine lw_pure hT rfl ?_))
    refine lw_index hT rfl rfl rfl i rfl hlt ?_
    skip
    refine lw_load_agg hT rfl rfl rfl (vs := entF (x, g)) hrd ?_
    skip
    refine lw_alloc z56 ?_
    intro b13 w4 hbb13 hb13 hx4 hs4
    skip
    refine lw_store_agg hT rfl rfl rfl rfl (entF_one hE) hb13 (show (11 : Nat) ≤ 11 by decide) ?_
    intro w5 hb135 hx5 hs5
    replace hb135 : Blk w5 b13 (entF (x, g)) 56 := hb135
    have hx35 : Ex w3 w5 := hx4.up_new hx5 (fun i h => by omega)
    have hx05 := hx03.trans hx35
    have hE5 := hE.ex hx35
    (repeat (first | refine lw_pure hT rfl ?_ | refine lw_nil ?_ | refine cw_seq ?_ | refine cw_region ?_ | refine qw_then ?_))
    refine lw_load hT rfl rfl (v := .string x.bill.number) (hb135.cell 0) ?_
    skip
    refine lw_call hT rfl rfl (reg_Get (hR.ex hx05) hsm x.bill.number) ?_
    rintro _ w6 ⟨hget, hx6⟩
    unfold GetR at hget
    rw [hatx] at hget
    obtain ⟨ub, up, rfl, hub, hup⟩ := hget
    (repeat (refine lw_pure hT rfl ?_))
    refine lw_alloc z33 ?_
    intro b14 w7 hbb14 hb14 hx7 hs7
    skip
    refine lw_store_agg hT rfl rfl rfl rfl (encB_one (A := fun _ => True) (w := w) (own_one hub) (own_one hup)) hb14 (show (9 : Nat) ≤ 9 by decide) ?_
    intro w8 hb148 hx8 hs8
    replace hb148 : Blk w8 b14 (encB x.bill ub up) 33 := hb148
    have hx68 : Ex w6 w8 := hx7.up_new hx8 (fun i h => by omega)
    have hx58 := hx6.trans hx68
    have hx08 := hx05.trans hx58
    have hb138 := hb135.ex hx58
    (repeat (first | refine lw_pure hT rfl ?_ | refine lw_nil ?_ | refine cw_seq ?_ | refine cw_region ?_ | refine qw_then ?_))
    refine lw_load hT rfl rfl (v := .string x.bill.number) (hb138.cell 0) ?_
    skip
    refine lw_call hT rfl rfl (reg_Originals (hR.ex hx08) x.bill.number) ?_
    rintro u16 w9' ⟨hu16, hx9'⟩
    obtain ⟨g16, c16, rfl, hg16, hrow⟩ := origs_row hatx h3 hu16
    have hx09' := hx08.trans hx9'
    have hb139 := hb138.ex hx9'
    have hb149 := hb148.ex hx9'
    have hb59 := (hb53.ex (hx35.trans hx58)).ex hx9'
    have hE9 := (hE5.ex hx58).ex hx9'
    (repeat (first | refine lw_pure hT rfl ?_ | refine lw_nil ?_ | refine cw_seq ?_ | refine qw_then ?_))
    refine cw_then_cut (α := Unit) (fun _ => [(0, pB p), (2, .string who), (5, pB b5), (12, .int .i64 (i : Nat)), (13, pB b13), (16, .slice (some ⟨g16, 0, none⟩) 3 c16), (136, .bool false)]) (fun _ w' => Ex w9' w') ?_ ?_
    · unfold pB
      have hub9 := own_ex (own_ex hub hx68) hx9'
      have hup9 := own_ex (own_ex hup hx68) hx9'
      refine cw_draw hM (fun w' => Ex w9' w') [] rfl rfl (by repeat (first | with_reducible refine nop_then ?_ | with_reducible refine nop_block ?_ | with_reducible exact nop_body)) (fun wa hxa _ => ⟨hxa, ?_⟩)
      (refine rw_takeP 0 rfl rfl (by kernel_rfl) (by kernel_rfl) (by kernel_rfl) (by kernel_rfl) rfl (yo_pure hT rfl) ?_; refine rw_takeP 1 rfl rfl (by kernel_rfl) (by kernel_rfl) (by kernel_rfl) (by kernel_rfl) rfl (yo_pure hT rfl) ?_; refine rw_takeP 2 rfl rfl (by kernel_rfl) (by kernel_rfl) (by kernel_rfl) (by kernel_rfl) rfl (yo_pure hT rfl) ?_)
      refine rw_take 3 rfl rfl (by kernel_rfl) (by kernel_rfl) (by kernel_rfl) (by kernel_rfl) rfl (yo_on rfl rfl (yo_load_agg hT rfl rfl rfl (vs := encB x.bill ub up) (fun w' hS => (hb149.ex hS).rd 0 9))) ?_
      (refine rw_takeP 4 rfl rfl (by kernel_rfl) (by kernel_rfl) (by kernel_rfl) (by kernel_rfl) rfl (yo_on rfl rfl (yo_pure hT rfl)) ?_)
      refine rw_take 5 rfl rfl (by kernel_rfl) (by kernel_rfl) (by kernel_rfl) (by kernel_rfl) rfl (yo_on rfl rfl (yo_load_agg hT rfl rfl rfl (vs := encB x.bill g.vb g.vp) (fun w' hS => (hb139.ex hS).rd 0 9))) ?_
      refine rw_one 6 rfl (by kernel_rfl) rfl (fun hcl => ?_)
      refine lw_gon_f rfl rfl ?_
      refine lw_call hT rfl rfl (r23_Same (A := fun _ => True) (B := A) ((sls_own hub9 fun _ _ => trivial).ex hxa) ((sls_own hup9 fun _ _ => trivial).ex hxa) (hE9.boxes.ex hxa) (hE9.parents.ex hxa)) ?_
      rintro _ wb ⟨rfl, hxb⟩
      have hxab := hxa.trans hxb
      (repeat (refine lw_nil ?_))
      refine qw_rw (by repeat (first | with_reducible refine nop_then ?_ | with_reducible refine nop_block ?_ | with_reducible exact nop_body)) hcl (fun _ => hxab) ?_
      (refine rw_takeP 7 rfl rfl (by kernel_rfl) (by kernel_rfl) (by kernel_rfl) (by kernel_rfl) rfl (yo_on rfl rfl (yo_pure hT rfl)) ?_)
      (refine rw_takeP 8 rfl rfl (by kernel_rfl) (by kernel_rfl) (by kernel_rfl) (by kernel_rfl) rfl (yo_pure hT rfl) ?_; refine rw_takeP 9 rfl rfl (by kernel_rfl) (by kernel_rfl) (by kernel_rfl) (by kernel_rfl) rfl (yo_pure hT rfl) ?_)
      (refine rw_takeP 10 rfl rfl (by kernel_rfl) (by kernel_rfl) (by kernel_rfl) (by kernel_rfl) rfl (yo_on rfl rfl (yo_pure hT rfl)) ?_; refine rw_takeP 11 rfl rfl (by kernel_rfl) (by kernel_rfl) (by kernel_rfl) (by kernel_rfl) rfl (yo_on rfl rfl (yo_pure hT rfl)) ?_; refine rw_takeP 12 rfl rfl (by kernel_rfl) (by kernel_rfl) (by kernel_rfl) (by kernel_rfl) rfl (yo_on rfl rfl (yo_pure hT rfl)) ?_)
      refine rw_take 13 rfl rfl (by kernel_rfl) (by kernel_rfl) (by kernel_rfl) (by kernel_rfl) rfl (yo_on rfl rfl (yo_load hT rfl rfl (v := .string x.bill.number) (fun w' hS => Ex.cell hS (hb139.cell 0)))) ?_
      (refine rw_takeP 15 rfl rfl (by kernel_rfl) (by kernel_rfl) (by kernel_rfl) (by kernel_rfl) rfl (yo_on rfl rfl (yo_pure hT rfl)) ?_)
      refine rw_take 16 rfl rfl (by kernel_rfl) (by kernel_rfl) (by kernel_rfl) (by kernel_rfl) rfl (yo_on rfl rfl (yo_load hT rfl rfl (v := .int .i64 x.state) (fun w' hS => Ex.cell hS (hb139.cell 9)))) ?_
      refine rw_one 14 rfl (by kernel_rfl) rfl (fun hcl => ?_)
      refine lw_gon_f rfl rfl ?_
      refine lw_call hT rfl rfl (reg_State (hR.ex (hx09'.trans hxab)) x.bill.number) ?_
      rintro _ _ ⟨rfl, rfl⟩
      rw [state_of hatx]
      (repeat (refine lw_nil ?_))
      refine qw_rw (by repeat (first | with_reducible refine nop_then ?_ | with_reducible refine nop_block ?_ | with_reducible exact nop_body)) hcl (fun _ => hxab) ?_
      (refine rw_takeP 17 rfl rfl (by kernel_rfl) (by kernel_rfl) (by kernel_rfl) (by kernel_rfl) rfl (yo_on rfl rfl (yo_pure hT rfl)) ?_)
      (refine rw_takeP 18 rfl rfl (by kernel_rfl) (by kernel_rfl) (by kernel_rfl) (by kernel_rfl) rfl (yo_pure hT rfl) ?_; refine rw_takeP 19 rfl rfl (by kernel_rfl) (by kernel_rfl) (by kernel_rfl) (by kernel_rfl) rfl (yo_pure hT rfl) ?_)
      refine rw_split (d := 117) rfl (fun e => absurd rfl (of_decide_eq_true e)) (fun _ => ?_)
      (refine rw_takeP 20 rfl rfl (by kernel_rfl) (by kernel_rfl) (by kernel_rfl) (by kernel_rfl) rfl (yo_on rfl rfl (yo_pure hT rfl)) ?_; refine rw_takeP 21 rfl rfl (by kernel_rfl) (by kernel_rfl) (by kernel_rfl) (by kernel_rfl) rfl (yo_on rfl rfl (yo_pure hT rfl)) ?_; refine rw_takeP 22 rfl rfl (by kernel_rfl) (by kernel_rfl) (by kernel_rfl) (by kernel_rfl) rfl (yo_on rfl rfl (yo_pure hT rfl)) ?_)
      (refine rw_takeP 23 rfl rfl (by kernel_rfl) (by kernel_rfl) (by kernel_rfl) (by kernel_rfl) rfl (yo_pure hT rfl) ?_; refine rw_takeP 24 rfl rfl (by kernel_rfl) (by kernel_rfl) (by kernel_rfl) (by kernel_rfl) rfl (yo_pure hT rfl) ?_)
      (refine rw_takeP 25 rfl rfl (by kernel_rfl) (by kernel_rfl) (by kernel_rfl) (by kernel_rfl) rfl (yo_on rfl rfl (yo_pure hT rfl)) ?_; refine rw_takeP 26 rfl rfl (by kernel_rfl) (by kernel_rfl) (by kernel_rfl) (by kernel_rfl) rfl (yo_on rfl rfl (yo_pure hT rfl)) ?_; refine rw_takeP 27 rfl rfl (by kernel_rfl) (by kernel_rfl) (by kernel_rfl) (by kernel_rfl) rfl (yo_on rfl rfl (yo_pure hT rfl)) ?_)
      refine rw_take 28 rfl rfl (by kernel_rfl) (by kernel_rfl) (by kernel_rfl) (by kernel_rfl) rfl (yo_on rfl rfl (yo_load hT rfl rfl (v := .string x.bill.number) (fun w' hS => Ex.cell hS (hb139.cell 0)))) ?_
      (refine rw_takeP 29 rfl rfl (by kernel_rfl) (by kernel_rfl) (by kernel_rfl) (by kernel_rfl) rfl (yo_on rfl rfl (yo_pure hT rfl)) ?_)
      refine rw_take 31 rfl rfl (by kernel_rfl) (by kernel_rfl) (by kernel_rfl) (by kernel_rfl) rfl (yo_on rfl rfl (yo_load_agg hT rfl rfl rfl (vs := encR r.carrier (.slice (some ⟨bL, oL, none⟩) r.l.length cL)) (fun w' hS => (hb59.ex hS).rd 0 2))) ?_
      (refine rw_takeP 32 rfl rfl (by kernel_rfl) (by kernel_rfl) (by kernel_rfl) (by kernel_rfl) rfl (yo_on rfl rfl (yo_pure hT rfl)) ?_; refine rw_takeP 33 rfl rfl (by kernel_rfl) (by kernel_rfl) (by kernel_rfl) (by kernel_rfl) rfl (yo_on rfl rfl (yo_pure hT rfl)) ?_)
      refine rw_take 34 rfl rfl (by kernel_rfl) (by kernel_rfl) (by kernel_rfl) (by kernel_rfl) rfl (yo_on rfl rfl (yo_load hT rfl rfl (v := .string x.bill.number) (fun w' hS => Ex.cell hS (hb139.cell 0)))) ?_
      (refine rw_takeP 35 rfl rfl (by kernel_rfl) (by kernel_rfl) (by kernel_rfl) (by kernel_rfl) rfl (yo_on rfl rfl (yo_pure hT rfl)) ?_)
      refine rw_one 30 rfl (by kernel_rfl) rfl (fun hcl => ?_)
      refine lw_gon_f rfl rfl ?_
      refine lw_call hT rfl rfl (reg_Full (hR.ex (hx09'.trans hxab)) x.bill.number who) ?_
      rintro _ wc ⟨rfl, hxc⟩
      have hxac := hxab.trans hxc
      (repeat (refine lw_nil ?_))
      refine qw_rw (by repeat (first | with_reducible refine nop_then ?_ | with_reducible refine nop_block ?_ | with_reducible exact nop_body)) hcl (fun _ => hxac) ?_
      refine rw_one 36 rfl (by kernel_rfl) rfl (fun hcl => ?_)
      refine lw_gon_f rfl rfl ?_
      refine lw_call hT rfl rfl (r23_Full r.carrier x.bill.number who (hF.ex (hx09'.trans hxac))) ?_
      rintro _ wd ⟨rfl, hxd⟩
      have hxad := hxac.trans hxd
      (repeat (refine lw_nil ?_))
      refine qw_rw (by repeat (first | with_reducible refine nop_then ?_ | with_reducible refine nop_block ?_ | with_reducible exact nop_body)) hcl (fun _ => hxad) ?_
      refine rw_takeP 37 rfl rfl (by kernel_rfl) (by kernel_rfl) (by kernel_rfl) (by kernel_rfl) rfl (yo_on rfl rfl (yo_neq_bool (by kernel_rfl) rfl rfl)) ?_
      (refine rw_takeP 38 rfl rfl (by kernel_rfl) (by kernel_rfl) (by kernel_rfl) (by kernel_rfl) rfl (yo_pure hT rfl) ?_)
      refine rw_done (by kernel_rfl) ?_
      have hff : (!(r.fullOf x.bill.number who == RegD.fullOf ⟨r.carrier, r.l⟩ x.bill.number who)) = false := by
        show (!(r.fullOf x.bill.number who == r.fullOf x.bill.number who)) = false
        simp
      rw [hff]
      exact qw_cut () (by repeat (first | exact trivial | refine ⟨rfl, ?_⟩)) hxad
    rintro _ w12 hx12
    unfold pB
    have hx012 := hx09'.trans hx12
    (repeat (first | refine lw_pure hT rfl ?_ | refine lw_nil ?_ | refine cw_seq ?_ | refine cw_region ?_ | refine qw_then ?_ | refine cw_skip ?_ | refine cw_block ?_ | (refine cw_cond_f rfl ?_ ?_; focus (first | with_reducible rfl | with_reducible exact Bool.not_false | with_reducible exact Bool.not_true))))
    refine cw_loop (fun k : Nat => [(0, .pointer (some ⟨p, 0, none⟩)), (2, .string who), (5, .pointer (some ⟨b5, 0, none⟩)), (12, .int .i64 (i : Nat)), (13, .pointer (some ⟨b13, 0, none⟩)), (16, .slice (some ⟨g16, 0, none⟩) 3 c16), (17, .int .i64 (k : Nat))]) (fun k w' => k ≤ 3 ∧ Ex w12 w') (fun k => 3 - k) 0 (by repeat (first | exact trivial | refine ⟨rfl, ?_⟩)) ⟨Nat.zero_le _, Ext.refl _ _⟩ ?_
    rintro k w13 ⟨hk, hx13⟩
    have hx9_13 := hx12.trans hx13
    have hx013 := hx09'.trans hx9_13
    (repeat (first | refine lw_pure hT rfl ?_ | refine lw_nil ?_ | refine cw_seq ?_ | refine cw_region ?_ | refine qw_then ?_))
    refine cw_cond rfl (fun e => ?_) (fun e => ?_)
    · have hk3 : k < 3 := by have := of_decide_eq_true e; omega
      have hE13 := hE9.ex hx9_13
      obtain ⟨vc, bP, oP, cP, hvP, _, hrP, hvk, hch⟩ := hE13.paper hk3
      obtain ⟨q, hq⟩ : ∃ q, q = papAt x k := ⟨_, rfl⟩
      rw [← hq] at hrP hch
      have hb1313 := hb139.ex hx9_13
      have hc10 := hb1313.cell 10
      replace hc10 : w13.cell? ⟨b13, 10, none⟩ = some (.slice (some ⟨bP, oP, none⟩) 3 cP) := by rw [hc10]; simp [entF, encB, hvP]
      (repeat (first | refine lw_pure hT rfl ?_ | refine cw_seq ?_ | refine cw_region ?_ | refine qw_then ?_ | refine cw_skip ?_ | refine cw_block ?_))
      refine lw_load hT rfl rfl hc10 ?_
      (repeat (refine lw_pure hT rfl ?_))
      refine lw_index hT rfl rfl rfl k rfl hk3 ?_
      skip
      refine lw_load_agg hT rfl rfl rfl (vs := [.int .i64 q.state, .string q.holder, vc]) hrP ?_
      skip
      refine lw_alloc z126 ?_
      intro b18 wa hbb18 hb18 hxa hsa
      skip
      refine lw_store_agg hT rfl rfl rfl rfl (by intro v hv; simp at hv; rcases hv with rfl | rfl | rfl <;> first | rfl | exact Sl.one hch) hb18 (show (3 : Nat) ≤ 3 by decide) ?_
      intro wb hb18b hxb hsb
      replace hb18b : Blk wb b18 [.int .i64 q.state, .string q.holder, vc] 126 := hb18b
      have hx13b : Ex w13 wb := hxa.up_new hxb (fun i h => by omega)
      (repeat (first | refine lw_pure hT rfl ?_ | refine lw_nil ?_ | refine cw_seq ?_ | refine cw_region ?_ | refine qw_then ?_))
      refine lw_load hT rfl rfl (v := .string x.bill.number) ((hb1313.ex hx13b).cell 0) ?_
      (repeat (refine lw_pure hT rfl ?_))
      refine lw_call hT rfl rfl (reg_Holder (hR.ex (hx013.trans hx13b)) x.bill.number k) ?_
      rintro _ w14 ⟨rfl, hx14⟩
      have hx1314 := hx13b.trans hx14
      have hx014 := hx013.trans hx1314
      rw [holder_there hatx h3 hk3, ← hq]
      have eH1 : (if thereB x q = true then some q.holder else none).isSome = thereB x q := by cases thereB x q <;> rfl
      have eH2 : (if thereB x q = true then some q.holder else none).getD (⟨#[]⟩ : ByteArray) = if thereB x q = true then q.holder else ⟨#[]⟩ := by cases thereB x q <;> rfl
      rw [eH1, eH2]
      have hb1314 := hb1313.ex hx1314
      have hb1814 := hb18b.ex hx14
      (iterate 5 (refine lw_pure hT rfl ?_))
      refine lw_nil ?_
      refine qw_then ?_
      refine cw_seq ?_
      refine cw_then_cut (α := Unit) (fun _ => [(0, pB p), (2, .string who), (5, pB b5), (12, .int .i64 (i : Nat)), (13, pB b13), (16, .slice (some ⟨g16, 0, none⟩) 3 c16), (17, .int .i64 (k : Nat)), (18, pB b18), (19, .string (if thereB x q = true then q.holder else ⟨#[]⟩)), (20, .bool (thereB x q)), (21, .bool (thereB x q))]) (fun _ w' => w14 = w') ?_ ?_
      · unfold pB
        (repeat (first | refine lw_pure hT rfl ?_ | refine cw_region ?_))
        refine lw_load hT rfl rfl (v := .int .i64 x.state) (hb1314.cell 9) ?_
        (repeat (refine lw_pure hT rfl ?_))
        refine lw_guard rfl (fun e1 => ?_) (fun e1 => ?_)
        · (repeat (first | refine lw_pure hT rfl ?_ | (refine lw_gon_t rfl ?_ ?_; focus (first | with_reducible rfl | with_reducible exact Bool.not_false | with_reducible exact Bool.not_true))))
          refine lw_load hT rfl rfl (v := .int .i64 q.state) (hb1814.cell 0) ?_
          (repeat (first | refine lw_pure hT rfl ?_ | (refine lw_gon_t rfl ?_ ?_; focus (first | with_reducible rfl | with_reducible exact Bool.not_false | with_reducible exact Bool.not_true))))
          refine lw_guard rfl (fun e2 => ?_) (fun e2 => ?_)
          · (repeat (first | refine lw_pure hT rfl ?_ | refine lw_nil ?_ | (refine lw_gon_t rfl ?_ ?_; focus (first | with_reducible rfl | with_reducible exact Bool.not_false | with_reducible exact Bool.not_true)) | (refine lw_goff_t rfl ?_ ?_; focus (first | with_reducible rfl | with_reducible exact Bool.not_false | with_reducible exact Bool.not_true))))
            have et : thereB x q = true := by unfold thereB; rw [e1, e2]; rfl
            rw [et]
            exact qw_cut () (by repeat (first | exact trivial | refine ⟨rfl, ?_⟩)) rfl
          · (repeat (first | refine lw_pure hT rfl ?_ | (refine lw_gon_f rfl ?_ ?_; focus (first | with_reducible rfl | with_reducible exact Bool.not_false | with_reducible exact Bool.not_true))))
            refine lw_load hT rfl rfl (v := .int .i64 q.state) (hb1814.cell 0) ?_
            (repeat (first | refine lw_pure hT rfl ?_ | refine lw_nil ?_ | (refine lw_gon_t rfl ?_ ?_; focus (first | with_reducible rfl | with_reducible exact Bool.not_false | with_reducible exact Bool.not_true)) | (refine lw_gon_f rfl ?_ ?_; focus (first | with_reducible rfl | with_reducible exact Bool.not_false | with_reducible exact Bool.not_true))))
            have et : thereB x q = decide (q.state = 3) := by unfold thereB; rw [e1, e2]; rfl
            rw [et]
            exact qw_cut () (by repeat (first | exact trivial | refine ⟨rfl, ?_⟩)) rfl
        · (repeat (first | refine lw_pure hT rfl ?_ | refine lw_nil ?_ | refine lw_goff_u rfl ?_ | (refine lw_goff_f rfl ?_ ?_; focus (first | with_reducible rfl | with_reducible exact Bool.not_false | with_reducible exact Bool.not_true))))
          have et : thereB x q = false := by unfold thereB; rw [e1]; rfl
          rw [et]
          exact qw_cut () (by repeat (first | exact trivial | refine ⟨rfl, ?_⟩)) rfl
      rintro _ _ rfl
      have hor14 : Rd w14 g16 (0 + k * 4) (origRow x.bill.number q k) := by rw [hq]; exact ((hrow k hk3).ex hx9_13).ex hx1314
      have hR14 := hR.ex hx014
      have hch14 := hch.ex hx1314
      refine qw_then ?_
      refine cw_seq ?_
      cases hth : thereB x q
      · refine cw_sub (fr' := [(0, .pointer (some ⟨p, 0, none⟩)), (2, .string who), (5, .pointer (some ⟨b5, 0, none⟩)), (12, .int .i64 (i : Nat)), (13, .pointer (some ⟨b13, 0, none⟩)), (16, .slice (some ⟨g16, 0, none⟩) 3 c16), (17, .int .i64 (k : Nat)), (18, .pointer (some ⟨b18, 0, none⟩)), (19, .string ⟨#[]⟩), (20, .bool false), (21, .bool false)]) (by repeat (first | exact trivial | refine ⟨rfl, ?_⟩)) ?_
        skip
        refine cw_draw hM (fun w' => Ex w14 w') [] rfl rfl (by repeat (first | with_reducible refine nop_then ?_ | with_reducible refine nop_block ?_ | with_reducible exact nop_body)) (fun w15 hx15 _ => ⟨hx15, ?_⟩)
        (refine rw_takeP 0 rfl rfl (by kernel_rfl) (by kernel_rfl) (by kernel_rfl) (by kernel_rfl) rfl (yo_pure hT rfl) ?_; refine rw_takeP 1 rfl rfl (by kernel_rfl) (by kernel_rfl) (by kernel_rfl) (by kernel_rfl) rfl (yo_pure hT rfl) ?_)
        refine rw_takeP 2 rfl rfl (by kernel_rfl) (by kernel_rfl) (by kernel_rfl) (by kernel_rfl) rfl (yo_index hT rfl rfl rfl k rfl hk3) ?_
        refine rw_take 3 rfl rfl (by kernel_rfl) (by kernel_rfl) (by kernel_rfl) (by kernel_rfl) rfl (yo_load_agg hT rfl rfl rfl (vs := origRow x.bill.number q k) (fun w' hS => hor14.ex hS)) ?_
        (refine rw_takeP 4 rfl rfl (by kernel_rfl) (by kernel_rfl) (by kernel_rfl) (by kernel_rfl) rfl (yo_pure hT rfl) ?_; refine rw_takeP 5 rfl rfl (by kernel_rfl) (by kernel_rfl) (by kernel_rfl) (by kernel_rfl) rfl (yo_pure hT rfl) ?_)
        refine rw_take 6 rfl rfl (by kernel_rfl) (by kernel_rfl) (by kernel_rfl) (by kernel_rfl) rfl (yo_load hT rfl rfl (v := .string x.bill.number) (fun w' hS => Ex.cell hS (hb1314.cell 0))) ?_
        (refine rw_takeP 7 rfl rfl (by kernel_rfl) (by kernel_rfl) (by kernel_rfl) (by kernel_rfl) rfl (yo_pure hT rfl) ?_; refine rw_takeP 8 rfl rfl (by kernel_rfl) (by kernel_rfl) (by kernel_rfl) (by kernel_rfl) rfl (yo_pure hT rfl) ?_)
        refine rw_take 9 rfl rfl (by kernel_rfl) (by kernel_rfl) (by kernel_rfl) (by kernel_rfl) rfl (yo_load hT rfl rfl (v := .int .i64 q.state) (fun w' hS => Ex.cell hS (hb1814.cell 0))) ?_
        (refine rw_takeP 10 rfl rfl (by kernel_rfl) (by kernel_rfl) (by kernel_rfl) (by kernel_rfl) rfl (yo_pure hT rfl) ?_)
        refine rw_take 11 rfl rfl (by kernel_rfl) (by kernel_rfl) (by kernel_rfl) (by kernel_rfl) rfl (yo_load hT rfl rfl (v := .string q.holder) (fun w' hS => Ex.cell hS (hb1814.cell 1))) ?_
        refine rw_takeP 12 rfl rfl (by kernel_rfl) (by kernel_rfl) (by kernel_rfl) (by kernel_rfl) rfl (yo_build bt129 rfl) ?_
        refine rw_takeP 13 rfl rfl (by kernel_rfl) (by kernel_rfl) (by kernel_rfl) (by kernel_rfl) rfl (yo_neq_same rfl rfl (orig_self x.bill.number q k)) ?_
        (refine rw_takeP 14 rfl rfl (by kernel_rfl) (by kernel_rfl) (by kernel_rfl) (by kernel_rfl) rfl (yo_pure hT rfl) ?_)
        (refine rw_takeP 15 rfl rfl (by kernel_rfl) (by kernel_rfl) (by kernel_rfl) (by kernel_rfl) rfl (yo_on rfl rfl (yo_pure hT rfl)) ?_; refine rw_takeP 16 rfl rfl (by kernel_rfl) (by kernel_rfl) (by kernel_rfl) (by kernel_rfl) rfl (yo_on rfl rfl (yo_pure hT rfl)) ?_)
        refine rw_takeP 17 rfl rfl (by kernel_rfl) (by kernel_rfl) (by kernel_rfl) (by kernel_rfl) rfl (yo_on rfl rfl (yo_neq_bool (by kernel_rfl) rfl rfl)) ?_
        (refine rw_takeP 18 rfl rfl (by kernel_rfl) (by kernel_rfl) (by kernel_rfl) (by kernel_rfl) rfl (yo_pure hT rfl) ?_; refine rw_takeP 19 rfl rfl (by kernel_rfl) (by kernel_rfl) (by kernel_rfl) (by kernel_rfl) rfl (yo_pure hT rfl) ?_)
        (refine rw_takeP 20 rfl rfl (by kernel_rfl) (by kernel_rfl) (by kernel_rfl) (by kernel_rfl) rfl (yo_on rfl rfl (yo_pure hT rfl)) ?_; refine rw_takeP 21 rfl rfl (by kernel_rfl) (by kernel_rfl) (by kernel_rfl) (by kernel_rfl) rfl (yo_on rfl rfl (yo_pure hT rfl)) ?_)
        (refine rw_takeP 22 rfl rfl (by kernel_rfl) (by kernel_rfl) (by kernel_rfl) (by kernel_rfl) rfl (yo_off rfl rfl) ?_; refine rw_takeP 23 rfl rfl (by kernel_rfl) (by kernel_rfl) (by kernel_rfl) (by kernel_rfl) rfl (yo_off rfl rfl) ?_; refine rw_takeP 24 rfl rfl (by kernel_rfl) (by kernel_rfl) (by kernel_rfl) (by kernel_rfl) rfl (yo_off rfl rfl) ?_; refine rw_takeP 25 rfl rfl (by kernel_rfl) (by kernel_rfl) (by kernel_rfl) (by kernel_rfl) rfl (yo_off rfl rfl) ?_)
        (refine rw_takeP 26 rfl rfl (by kernel_rfl) (by kernel_rfl) (by kernel_rfl) (by kernel_rfl) rfl (yo_on rfl rfl (yo_pure hT rfl)) ?_)
        (refine rw_takeP 27 rfl rfl (by kernel_rfl) (by kernel_rfl) (by kernel_rfl) (by kernel_rfl) rfl (yo_pure hT rfl) ?_; refine rw_takeP 28 rfl rfl (by kernel_rfl) (by kernel_rfl) (by kernel_rfl) (by kernel_rfl) rfl (yo_pure hT rfl) ?_)
        (refine rw_takeP 29 rfl rfl (by kernel_rfl) (by kernel_rfl) (by kernel_rfl) (by kernel_rfl) rfl (yo_on rfl rfl (yo_pure hT rfl)) ?_; refine rw_takeP 30 rfl rfl (by kernel_rfl) (by kernel_rfl) (by kernel_rfl) (by kernel_rfl) rfl (yo_on rfl rfl (yo_pure hT rfl)) ?_; refine rw_takeP 31 rfl rfl (by kernel_rfl) (by kernel_rfl) (by kernel_rfl) (by kernel_rfl) rfl (yo_on rfl rfl (yo_pure hT rfl)) ?_; refine rw_takeP 32 rfl rfl (by kernel_rfl) (by kernel_rfl) (by kernel_rfl) (by kernel_rfl) rfl (yo_on rfl rfl (yo_pure hT rfl)) ?_; refine rw_takeP 33 rfl rfl (by kernel_rfl) (by kernel_rfl) (by kernel_rfl) (by kernel_rfl) rfl (yo_on rfl rfl (yo_pure hT rfl)) ?_; refine rw_takeP 34 rfl rfl (by kernel_rfl) (by kernel_rfl) (by kernel_rfl) (by kernel_rfl) rfl (yo_on rfl rfl (yo_pure hT rfl)) ?_)
        (refine rw_takeP 35 rfl rfl (by kernel_rfl) (by kernel_rfl) (by kernel_rfl) (by kernel_rfl) rfl (yo_pure hT rfl) ?_; refine rw_takeP 36 rfl rfl (by kernel_rfl) (by kernel_rfl) (by kernel_rfl) (by kernel_rfl) rfl (yo_pure hT rfl) ?_)
        (refine rw_takeP 37 rfl rfl (by kernel_rfl) (by kernel_rfl) (by kernel_rfl) (by kernel_rfl) rfl (yo_on rfl rfl (yo_pure hT rfl)) ?_; refine rw_takeP 38 rfl rfl (by kernel_rfl) (by kernel_rfl) (by kernel_rfl) (by kernel_rfl) rfl (yo_on rfl rfl (yo_pure hT rfl)) ?_; refine rw_takeP 39 rfl rfl (by kernel_rfl) (by kernel_rfl) (by kernel_rfl) (by kernel_rfl) rfl (yo_on rfl rfl (yo_pure hT rfl)) ?_)
        refine rw_take 40 rfl rfl (by kernel_rfl) (by kernel_rfl) (by kernel_rfl) (by kernel_rfl) rfl (yo_on rfl rfl (yo_load hT rfl rfl (v := .string x.bill.number) (fun w' hS => Ex.cell hS (hb1314.cell 0)))) ?_
        (refine rw_takeP 41 rfl rfl (by kernel_rfl) (by kernel_rfl) (by kernel_rfl) (by kernel_rfl) rfl (yo_on rfl rfl (yo_pure hT rfl)) ?_; refine rw_takeP 43 rfl rfl (by kernel_rfl) (by kernel_rfl) (by kernel_rfl) (by kernel_rfl) rfl (yo_on rfl rfl (yo_pure hT rfl)) ?_)
        refine rw_take 44 rfl rfl (by kernel_rfl) (by kernel_rfl) (by kernel_rfl) (by kernel_rfl) rfl (yo_on rfl rfl (yo_load hT rfl rfl (v := vc) (fun w' hS => Ex.cell hS (hb1814.cell 2)))) ?_
        refine rw_one 42 rfl (by kernel_rfl) rfl (fun hcl => ?_)
        refine lw_gon_f rfl rfl ?_
        refine lw_call hT rfl rfl (reg_Chain (hR14.ex hx15) hsm x.bill.number k) ?_
        rintro uc w16 ⟨huc, hx16⟩
        rw [chain_of hatx h3 hk3, ← hq] at huc
        have hx1416 := hx15.trans hx16
        (repeat (refine lw_nil ?_))
        refine qw_rw (by repeat (first | with_reducible refine nop_then ?_ | with_reducible refine nop_block ?_ | with_reducible exact nop_body)) hcl (fun _ => hx1416) ?_
        refine rw_one 45 rfl (by kernel_rfl) rfl (fun hcl => ?_)
        refine lw_gon_f rfl rfl ?_
        have hc16 : ChainOk w16 uc q.chain := own_mono huc (Nat.zero_le _)
        refine lw_call hT rfl rfl (r23_Chains w16 (hc16.sl (A := fun _ => True) fun _ _ => trivial) (hch14.ex hx1416)) ?_
        rintro _ w17 ⟨rfl, hx17⟩
        have hx1417 := hx1416.trans hx17
        (repeat (refine lw_nil ?_))
        refine qw_rw (by repeat (first | with_reducible refine nop_then ?_ | with_reducible refine nop_block ?_ | with_reducible exact nop_body)) hcl (fun _ => hx1417) ?_
        (refine rw_takeP 46 rfl rfl (by kernel_rfl) (by kernel_rfl) (by kernel_rfl) (by kernel_rfl) rfl (yo_on rfl rfl (yo_pure hT rfl)) ?_)
        (refine rw_takeP 47 rfl rfl (by kernel_rfl) (by kernel_rfl) (by kernel_rfl) (by kernel_rfl) rfl (yo_pure hT rfl) ?_)
        refine rw_done (by kernel_rfl) ?_
        (repeat (first | (refine lw_add rfl rfl ?_ ?_ ?_; iterate 2 omega) | refine lw_pure hT rfl ?_ | refine lw_nil ?_ | refine cw_region ?_ | refine qw_then ?_ | refine cw_skip ?_ | refine qw_block ?_ | (refine cw_cond_f rfl ?_ ?_; focus (first | with_reducible rfl | with_reducible exact Bool.not_false | with_reducible exact Bool.not_true))))
        exact qw_round (k + 1) (by repeat (first | exact trivial | refine ⟨rfl, ?_⟩)) ⟨hk3, hx13.trans (hx1314.trans hx1417)⟩ (by omega)
      · refine cw_sub (fr' := [(0, .pointer (some ⟨p, 0, none⟩)), (2, .string who), (5, .pointer (some ⟨b5, 0, none⟩)), (12, .int .i64 (i : Nat)), (13, .pointer (some ⟨b13, 0, none⟩)), (16, .slice (some ⟨g16, 0, none⟩) 3 c16), (17, .int .i64 (k : Nat)), (18, .pointer (some ⟨b18, 0, none⟩)), (19, .string q.holder), (20, .bool true), (21, .bool true)]) (by repeat (first | exact trivial | refine ⟨rfl, ?_⟩)) ?_
        skip
        refine cw_draw hM (fun w' => Ex w14 w') [] rfl rfl (by repeat (first | with_reducible refine nop_then ?_ | with_reducible refine nop_block ?_ | with_reducible exact nop_body)) (fun w15 hx15 _ => ⟨hx15, ?_⟩)
        (refine rw_takeP 0 rfl rfl (by kernel_rfl) (by kernel_rfl) (by kernel_rfl) (by kernel_rfl) rfl (yo_pure hT rfl) ?_; refine rw_takeP 1 rfl rfl (by kernel_rfl) (by kernel_rfl) (by kernel_rfl) (by kernel_rfl) rfl (yo_pure hT rfl) ?_)
        refine rw_takeP 2 rfl rfl (by kernel_rfl) (by kernel_rfl) (by kernel_rfl) (by kernel_rfl) rfl (yo_index hT rfl rfl rfl k rfl hk3) ?_
        refine rw_take 3 rfl rfl (by kernel_rfl) (by kernel_rfl) (by kernel_rfl) (by kernel_rfl) rfl (yo_load_agg hT rfl rfl rfl (vs := origRow x.bill.number q k) (fun w' hS => hor14.ex hS)) ?_
        (refine rw_takeP 4 rfl rfl (by kernel_rfl) (by kernel_rfl) (by kernel_rfl) (by kernel_rfl) rfl (yo_pure hT rfl) ?_; refine rw_takeP 5 rfl rfl (by kernel_rfl) (by kernel_rfl) (by kernel_rfl) (by kernel_rfl) rfl (yo_pure hT rfl) ?_)
        refine rw_take 6 rfl rfl (by kernel_rfl) (by kernel_rfl) (by kernel_rfl) (by kernel_rfl) rfl (yo_load hT rfl rfl (v := .string x.bill.number) (fun w' hS => Ex.cell hS (hb1314.cell 0))) ?_
        (refine rw_takeP 7 rfl rfl (by kernel_rfl) (by kernel_rfl) (by kernel_rfl) (by kernel_rfl) rfl (yo_pure hT rfl) ?_; refine rw_takeP 8 rfl rfl (by kernel_rfl) (by kernel_rfl) (by kernel_rfl) (by kernel_rfl) rfl (yo_pure hT rfl) ?_)
        refine rw_take 9 rfl rfl (by kernel_rfl) (by kernel_rfl) (by kernel_rfl) (by kernel_rfl) rfl (yo_load hT rfl rfl (v := .int .i64 q.state) (fun w' hS => Ex.cell hS (hb1814.cell 0))) ?_
        (refine rw_takeP 10 rfl rfl (by kernel_rfl) (by kernel_rfl) (by kernel_rfl) (by kernel_rfl) rfl (yo_pure hT rfl) ?_)
        refine rw_take 11 rfl rfl (by kernel_rfl) (by kernel_rfl) (by kernel_rfl) (by kernel_rfl) rfl (yo_load hT rfl rfl (v := .string q.holder) (fun w' hS => Ex.cell hS (hb1814.cell 1))) ?_
        refine rw_takeP 12 rfl rfl (by kernel_rfl) (by kernel_rfl) (by kernel_rfl) (by kernel_rfl) rfl (yo_build bt129 rfl) ?_
        refine rw_takeP 13 rfl rfl (by kernel_rfl) (by kernel_rfl) (by kernel_rfl) (by kernel_rfl) rfl (yo_neq_same rfl rfl (orig_self x.bill.number q k)) ?_
        (refine rw_takeP 14 rfl rfl (by kernel_rfl) (by kernel_rfl) (by kernel_rfl) (by kernel_rfl) rfl (yo_pure hT rfl) ?_)
        (refine rw_takeP 15 rfl rfl (by kernel_rfl) (by kernel_rfl) (by kernel_rfl) (by kernel_rfl) rfl (yo_on rfl rfl (yo_pure hT rfl)) ?_; refine rw_takeP 16 rfl rfl (by kernel_rfl) (by kernel_rfl) (by kernel_rfl) (by kernel_rfl) rfl (yo_on rfl rfl (yo_pure hT rfl)) ?_)
        refine rw_takeP 17 rfl rfl (by kernel_rfl) (by kernel_rfl) (by kernel_rfl) (by kernel_rfl) rfl (yo_on rfl rfl (yo_neq_bool (by kernel_rfl) rfl rfl)) ?_
        (refine rw_takeP 18 rfl rfl (by kernel_rfl) (by kernel_rfl) (by kernel_rfl) (by kernel_rfl) rfl (yo_pure hT rfl) ?_; refine rw_takeP 19 rfl rfl (by kernel_rfl) (by kernel_rfl) (by kernel_rfl) (by kernel_rfl) rfl (yo_pure hT rfl) ?_)
        (refine rw_takeP 20 rfl rfl (by kernel_rfl) (by kernel_rfl) (by kernel_rfl) (by kernel_rfl) rfl (yo_on rfl rfl (yo_pure hT rfl)) ?_; refine rw_takeP 21 rfl rfl (by kernel_rfl) (by kernel_rfl) (by kernel_rfl) (by kernel_rfl) rfl (yo_on rfl rfl (yo_pure hT rfl)) ?_)
        (refine rw_takeP 22 rfl rfl (by kernel_rfl) (by kernel_rfl) (by kernel_rfl) (by kernel_rfl) rfl (yo_on rfl rfl (yo_pure hT rfl)) ?_; refine rw_takeP 23 rfl rfl (by kernel_rfl) (by kernel_rfl) (by kernel_rfl) (by kernel_rfl) rfl (yo_on rfl rfl (yo_pure hT rfl)) ?_)
        refine rw_take 24 rfl rfl (by kernel_rfl) (by kernel_rfl) (by kernel_rfl) (by kernel_rfl) rfl (yo_on rfl rfl (yo_load hT rfl rfl (v := .string q.holder) (fun w' hS => Ex.cell hS (hb1814.cell 1)))) ?_
        (refine rw_takeP 25 rfl rfl (by kernel_rfl) (by kernel_rfl) (by kernel_rfl) (by kernel_rfl) rfl (yo_on rfl rfl (yo_pure hT rfl)) ?_; refine rw_takeP 26 rfl rfl (by kernel_rfl) (by kernel_rfl) (by kernel_rfl) (by kernel_rfl) rfl (yo_on rfl rfl (yo_pure hT rfl)) ?_)
        (refine rw_takeP 27 rfl rfl (by kernel_rfl) (by kernel_rfl) (by kernel_rfl) (by kernel_rfl) rfl (yo_pure hT rfl) ?_; refine rw_takeP 28 rfl rfl (by kernel_rfl) (by kernel_rfl) (by kernel_rfl) (by kernel_rfl) rfl (yo_pure hT rfl) ?_)
        refine rw_split (d := 196) rfl (fun e => absurd rfl (of_decide_eq_true e)) (fun _ => ?_)
        (refine rw_takeP 29 rfl rfl (by kernel_rfl) (by kernel_rfl) (by kernel_rfl) (by kernel_rfl) rfl (yo_on rfl rfl (yo_pure hT rfl)) ?_; refine rw_takeP 30 rfl rfl (by kernel_rfl) (by kernel_rfl) (by kernel_rfl) (by kernel_rfl) rfl (yo_on rfl rfl (yo_pure hT rfl)) ?_; refine rw_takeP 31 rfl rfl (by kernel_rfl) (by kernel_rfl) (by kernel_rfl) (by kernel_rfl) rfl (yo_on rfl rfl (yo_pure hT rfl)) ?_)
        (refine rw_takeP 32 rfl rfl (by kernel_rfl) (by kernel_rfl) (by kernel_rfl) (by kernel_rfl) rfl (yo_off rfl rfl) ?_; refine rw_takeP 33 rfl rfl (by kernel_rfl) (by kernel_rfl) (by kernel_rfl) (by kernel_rfl) rfl (yo_off rfl rfl) ?_)
        (refine rw_takeP 34 rfl rfl (by kernel_rfl) (by kernel_rfl) (by kernel_rfl) (by kernel_rfl) rfl (yo_on rfl rfl (yo_pure hT rfl)) ?_)
        (refine rw_takeP 35 rfl rfl (by kernel_rfl) (by kernel_rfl) (by kernel_rfl) (by kernel_rfl) rfl (yo_pure hT rfl) ?_; refine rw_takeP 36 rfl rfl (by kernel_rfl) (by kernel_rfl) (by kernel_rfl) (by kernel_rfl) rfl (yo_pure hT rfl) ?_)
        (refine rw_takeP 37 rfl rfl (by kernel_rfl) (by kernel_rfl) (by kernel_rfl) (by kernel_rfl) rfl (yo_on rfl rfl (yo_pure hT rfl)) ?_; refine rw_takeP 38 rfl rfl (by kernel_rfl) (by kernel_rfl) (by kernel_rfl) (by kernel_rfl) rfl (yo_on rfl rfl (yo_pure hT rfl)) ?_; refine rw_takeP 39 rfl rfl (by kernel_rfl) (by kernel_rfl) (by kernel_rfl) (by kernel_rfl) rfl (yo_on rfl rfl (yo_pure hT rfl)) ?_)
        refine rw_take 40 rfl rfl (by kernel_rfl) (by kernel_rfl) (by kernel_rfl) (by kernel_rfl) rfl (yo_on rfl rfl (yo_load hT rfl rfl (v := .string x.bill.number) (fun w' hS => Ex.cell hS (hb1314.cell 0)))) ?_
        (refine rw_takeP 41 rfl rfl (by kernel_rfl) (by kernel_rfl) (by kernel_rfl) (by kernel_rfl) rfl (yo_on rfl rfl (yo_pure hT rfl)) ?_; refine rw_takeP 43 rfl rfl (by kernel_rfl) (by kernel_rfl) (by kernel_rfl) (by kernel_rfl) rfl (yo_on rfl rfl (yo_pure hT rfl)) ?_)
        refine rw_take 44 rfl rfl (by kernel_rfl) (by kernel_rfl) (by kernel_rfl) (by kernel_rfl) rfl (yo_on rfl rfl (yo_load hT rfl rfl (v := vc) (fun w' hS => Ex.cell hS (hb1814.cell 2)))) ?_
        refine rw_one 42 rfl (by kernel_rfl) rfl (fun hcl => ?_)
        refine lw_gon_f rfl rfl ?_
        refine lw_call hT rfl rfl (reg_Chain (hR14.ex hx15) hsm x.bill.number k) ?_
        rintro uc w16 ⟨huc, hx16⟩
        rw [chain_of hatx h3 hk3, ← hq] at huc
        have hx1416 := hx15.trans hx16
        (repeat (refine lw_nil ?_))
        refine qw_rw (by repeat (first | with_reducible refine nop_then ?_ | with_reducible refine nop_block ?_ | with_reducible exact nop_body)) hcl (fun _ => hx1416) ?_
        refine rw_one 45 rfl (by kernel_rfl) rfl (fun hcl => ?_)
        refine lw_gon_f rfl rfl ?_
        have hc16 : ChainOk w16 uc q.chain := own_mono huc (Nat.zero_le _)
        refine lw_call hT rfl rfl (r23_Chains w16 (hc16.sl (A := fun _ => True) fun _ _ => trivial) (hch14.ex hx1416)) ?_
        rintro _ w17 ⟨rfl, hx17⟩
        have hx1417 := hx1416.trans hx17
        (repeat (refine lw_nil ?_))
        refine qw_rw (by repeat (first | with_reducible refine nop_then ?_ | with_reducible refine nop_block ?_ | with_reducible exact nop_body)) hcl (fun _ => hx1417) ?_
        (refine rw_takeP 46 rfl rfl (by kernel_rfl) (by kernel_rfl) (by kernel_rfl) (by kernel_rfl) rfl (yo_on rfl rfl (yo_pure hT rfl)) ?_)
        (refine rw_takeP 47 rfl rfl (by kernel_rfl) (by kernel_rfl) (by kernel_rfl) (by kernel_rfl) rfl (yo_pure hT rfl) ?_)
        refine rw_done (by kernel_rfl) ?_
        (repeat (first | (refine lw_add rfl rfl ?_ ?_ ?_; iterate 2 omega) | refine lw_pure hT rfl ?_ | refine lw_nil ?_ | refine cw_region ?_ | refine qw_then ?_ | refine cw_skip ?_ | refine qw_block ?_ | (refine cw_cond_f rfl ?_ ?_; focus (first | with_reducible rfl | with_reducible exact Bool.not_false | with_reducible exact Bool.not_true))))
        exact qw_round (k + 1) (by repeat (first | exact trivial | refine ⟨rfl, ?_⟩)) ⟨hk3, hx13.trans (hx1314.trans hx1417)⟩ (by omega)
    · have ek : k = 3 := by have := of_decide_eq_false e; omega
      subst ek
      (repeat (first | (refine lw_add rfl rfl ?_ ?_ ?_; iterate 2 omega) | refine lw_pure hT rfl ?_ | refine lw_nil ?_ | refine cw_region ?_ | refine qw_then ?_ | refine cw_exit ?_ | refine qw_block ?_ | refine qw_block_exit ?_ | refine qw_then_exit ?_))
      exact qw_round (i + 1) (by repeat (first | exact trivial | refine ⟨rfl, ?_⟩)) ⟨hlt, (hx103.trans (hx35.trans hx58)).trans (hx9'.trans hx9_13)⟩ (by omega)
  · (repeat (first | refine lw_pure hT rfl ?_ | refine lw_nil ?_ | refine cw_seq ?_ | refine cw_region ?_ | refine qw_then ?_ | refine cw_ret ?_ | refine cw_exit ?_ | refine qw_block_exit ?_ | refine qw_then_exit ?_))
    exact qw_ret rfl ⟨rfl, hx03⟩
theorem l23_Unlike {A : Nat → Prop} {w : World} {p m k0 : Nat} {r : RegD} {gs : List GhostE} {vL : Value} {fgs : List FG} (hR : Rep w p r m gs) (hG : Good k0 r) (hk0 : k0 ≤ 200) (hF : FRep A w vL r.l fgs) (who box : ByteArray) :
    Ret Tryz.prog 29 [.pointer (some ⟨p, 0, none⟩), .agg ⟨encR r.carrier vL⟩, .string who, .string box] w fun v w' => v = .string ⟨#[]⟩ ∧ Ex w w' :=
  l23_UnlikeG hR hG (by omega) (by have := hG.len; omega) hF who box
end Go.Proofs.YtnglkhnfmbnfeaaGreat

/- Vz -/
namespace Go.Proofs.YtnglkhnfmbnfeaaGreat
open Go Go.SK

theorem sacts_one {A : Nat → Prop} {w : World} {b e : Nat} {a : SActD} {vp vn : Value} (hb : Blk w b (encS a vp vn) e) (h : SActAt A w a vp vn) : SActsAt (fun _ => True) w (.slice (some ⟨b, 0, none⟩) 1 1) [a] := by
  refine ⟨_, 1, rfl, (show (1 : Nat) ≤ maxLen by decide), fun i hi => ?_⟩
  match i, hi with
  | 0, _ => exact ⟨b, 0, vp, vn, rfl, trivial, hb.rd 0 9, ⟨h.parts.any, h.cap.any, h.names.weaken fun _ _ => trivial, h.ok⟩⟩
theorem encS_one {A : Nat → Prop} {w : World} {a : SActD} {vp vn : Value} (h : SActAt A w a vp vn) : ∀ u ∈ encS a vp vn, u.oneCell' = true := by
  have o6 : vp.oneCell' = true := by obtain ⟨p, c, e, _⟩ := h.parts.is; rw [e]; rfl
  have o7 : vn.oneCell' = true := Sl.one h.names
  intro u hu
  simp [encS] at hu
  rcases hu with rfl | rfl | rfl | rfl | rfl | rfl | rfl | rfl | rfl <;> first | rfl | assumption
theorem getR_all {r : RegD} {n : ByteArray} {w w' : World} {v : Value} (h : GetR r n w w' v) : ∃ b vb vp ok, v = .tuple #[.agg ⟨encB b vb vp⟩, .bool ok] ∧ vb.oneCell' = true ∧ vp.oneCell' = true ∧ SlS (NewIn w.heap.size w') w' vb b.boxes ∧ w'.ownsRow w.heap.size 9 1 vb b.boxes.length (b.boxes.map Value.string) ∧ (∀ x, r.at? n = some x → b = x.bill ∧ ok = true) ∧ (r.at? n = none → ok = false) := by
  unfold GetR at h
  cases hat : r.at? n with
  | none =>
    rw [hat] at h
    exact ⟨zeroB, _, _, false, h, rfl, rfl, Sl.nil _ _ _, ⟨rfl, .inl ⟨rfl, rfl⟩⟩, (fun x hx => by cases hx), fun _ => rfl⟩
  | some x =>
    rw [hat] at h
    obtain ⟨ub, up, rfl, h1, h2⟩ := h
    exact ⟨x.bill, ub, up, true, rfl, own_one h1, own_one h2, sls_own h1 fun b hb => own_base h1 hb, h1, (fun y hy => by cases hy; exact ⟨rfl, rfl⟩), fun h => by cases h⟩
end Go.Proofs.YtnglkhnfmbnfeaaGreat

/- Od -/
namespace Go.Proofs.YtnglkhnfmbnfeaaGreat
open Go Go.SK Go.ChangeShapes Go.WideShapes
section
variable {H : Type} {enc : TypeId × Value → H} {w : World} {base : Nat} {spare : Nat → Bool} {held : Bool}
theorem open_strs {fuel : Nat} {cs : List Value} {x : DataW H × List MemPlace} (hsp : ∀ b, spare b = true) (h : DataW.trod enc Tryz.prog w base spare held fuel 31 cs = some x) :
    ∃ (v : Value) (l : List ByteArray), cs = [v] ∧ SlS (fun _ => True) w v l ∧ (∀ p n c, v = .slice p n c → n ≤ c) ∧ ∀ s ∈ l, s.size ≤ maxLen :=
  open_texts (e := 9) hsp (by kernel_rfl) (by kernel_rfl) (by kernel_rfl) h
theorem open_slss {fuel : Nat} {cs : List Value} {x : DataW H × List MemPlace} (hsp : ∀ b, spare b = true) (h : DataW.trod enc Tryz.prog w base spare held fuel 39 cs = some x) :
    ∃ (v : Value) (ps : List (List ByteArray)), cs = [v] ∧ SlsAt (fun _ => True) w v ps ∧ PCap (fun _ => True) w v ps ∧ ∀ p ∈ ps, ∀ s ∈ p, s.size ≤ maxLen := by
  have hC : Tryz.prog.cellsOf 31 = 1 := by kernel_rfl
  rcases Go.Deep.open_slice (e := 31) (by kernel_rfl) h with ⟨rfl, _⟩ | ⟨a, len, cap, m, n, D, Pl, rfl, _, hl, hm, hmm, _, hx⟩
  · exact ⟨_, [], rfl, ⟨⟨none, 0, rfl, fun i hi => by simp at hi⟩, Nat.zero_le _, fun p n c e _ => by cases e; rfl⟩, ⟨none, 0, rfl, fun i hi => by simp at hi⟩, fun p hp => by simp at hp⟩
  · rw [hsp, if_pos rfl] at hmm
    subst hmm
    rw [hC] at hx
    have each : ∀ i, i < m → ∃ q : Value × List ByteArray, w.cell? ((a.add (i * 1)).add 0) = some q.1 ∧ SlS (fun _ => True) w q.1 q.2 ∧ (∀ p n c, q.1 = .slice p n c → n ≤ c) ∧ ∀ s ∈ q.2, s.size ≤ maxLen := by
      intro i hi
      obtain ⟨cs', h1, h2⟩ := hx i hi
      obtain ⟨_, _, h3⟩ := World.cells?_some h1
      obtain ⟨v, l, rfl, h4, h5, h6⟩ := open_strs hsp h2
      exact ⟨(v, l), h3 0 (by omega), h4, h5, h6⟩
    have ex : ∃ f : Nat → Value × List ByteArray, ∀ i, i < m → w.cell? ((a.add (i * 1)).add 0) = some (f i).1 ∧ SlS (fun _ => True) w (f i).1 (f i).2 ∧ (∀ p n c, (f i).1 = .slice p n c → n ≤ c) ∧ ∀ s ∈ (f i).2, s.size ≤ maxLen := by
      classical
      refine ⟨fun i => if hi : i < m then Classical.choose (each i hi) else (undef, []), fun i hi => ?_⟩
      simp only [dif_pos hi]
      exact Classical.choose_spec (each i hi)
    obtain ⟨f, hf⟩ := ex
    have hgo : ∀ i, i < len → a = ⟨a.block, a.off, none⟩ ∧ Rd w a.block (a.off + i * 1) [(f i).1] := by
      intro i hi
      have hz := (hf 0 (by omega)).1
      have e0 : (a.add (0 * 1)).add 0 = a := rfl
      rw [e0] at hz
      have ea := spot_of hz
      refine ⟨ea, ?_⟩
      have := (hf i (by omega)).1
      rw [ea, addr_add, addr_add] at this
      exact Rd.one this
    refine ⟨_, (List.range len).map fun i => (f i).2, rfl, ⟨⟨some a, m, by simp, fun i hi => ?_⟩, by simp; omega, fun p n c e hp => by cases e; cases hp⟩, ⟨some a, m, by simp, fun i hi => ?_⟩, ?_⟩
    · have hi' : i < len := by simpa using hi
      obtain ⟨ea, hrd⟩ := hgo i hi'
      refine ⟨a.block, a.off, (f i).1, by rw [← ea], trivial, hrd, ?_⟩
      have e : ((List.range len).map fun i => (f i).2)[i] = (f i).2 := by simp
      rw [e]; exact (hf i (by omega)).2.1
    · have hi' : i < len := by simpa using hi
      obtain ⟨ea, hrd⟩ := hgo i hi'
      obtain ⟨au, cu, e, _⟩ := (hf i (by omega)).2.1.is
      refine ⟨a.block, a.off, au, _, cu, by rw [← ea], trivial, by rw [← e]; exact hrd, (hf i (by omega)).2.2.1 _ _ _ e⟩
    · intro p hp
      obtain ⟨i, hi, rfl⟩ := List.mem_map.1 hp
      exact (hf i (by have := List.mem_range.1 hi; omega)).2.2.2
theorem open_sact {fuel : Nat} {cs : List Value} {x : DataW H × List MemPlace} (hsp : ∀ b, spare b = true) (h : DataW.trod enc Tryz.prog w base spare held fuel 45 cs = some x) :
    ∃ a vp vn, cs = encS a vp vn ∧ SActAt (fun _ => True) w a vp vn := by
  obtain ⟨n0, y0, h0⟩ := open_part (j := 0) (ft := 5) (o := 0) (k := 1) (by kernel_rfl) h
  obtain ⟨n1, y1, h1⟩ := open_part (j := 1) (ft := 9) (o := 1) (k := 1) (by kernel_rfl) h
  obtain ⟨n2, y2, h2⟩ := open_part (j := 2) (ft := 9) (o := 2) (k := 1) (by kernel_rfl) h
  obtain ⟨n3, y3, h3⟩ := open_part (j := 3) (ft := 9) (o := 3) (k := 1) (by kernel_rfl) h
  obtain ⟨n4, y4, h4⟩ := open_part (j := 4) (ft := 9) (o := 4) (k := 1) (by kernel_rfl) h
  obtain ⟨n5, y5, h5⟩ := open_part (j := 5) (ft := 9) (o := 5) (k := 1) (by kernel_rfl) h
  obtain ⟨n6, y6, h6⟩ := open_part (j := 6) (ft := 39) (o := 6) (k := 1) (by kernel_rfl) h
  obtain ⟨n7, y7, h7⟩ := open_part (j := 7) (ft := 31) (o := 7) (k := 1) (by kernel_rfl) h
  obtain ⟨n8, y8, h8⟩ := open_part (j := 8) (ft := 3) (o := 8) (k := 1) (by kernel_rfl) h
  have hlen : cs.length = 9 := open_len (fs := (Tryz.prog.underlying 45).elim #[] fun d => match d with | .struct fs => fs | _ => #[]) (by kernel_rfl) (by kernel_rfl) h
  have us : Tryz.prog.underlying 9 = some .string := by kernel_rfl
  have ui : Tryz.prog.underlying 3 = some (.int .i64) := by kernel_rfl
  have u8 : Tryz.prog.underlying 5 = some (.int .u8) := by kernel_rfl
  match cs, hlen with
  | [c0, c1, c2, c3, c4, c5, c6, c7, c8], _ =>
    obtain ⟨i0, e0, _, k0⟩ := DataW.trod_int u8 h0
    obtain ⟨s1, e1, _, k1⟩ := DataW.trod_string us h1
    obtain ⟨s2, e2, _, k2⟩ := DataW.trod_string us h2
    obtain ⟨s3, e3, _, k3⟩ := DataW.trod_string us h3
    obtain ⟨s4, e4, _, k4⟩ := DataW.trod_string us h4
    obtain ⟨s5, e5, _, k5⟩ := DataW.trod_string us h5
    obtain ⟨v6, l6, e6, g6, q6, k6⟩ := open_slss hsp h6
    obtain ⟨v7, l7, e7, g7, _, k7⟩ := open_strs hsp h7
    obtain ⟨i8, e8, _, _⟩ := DataW.trod_int ui h8
    simp at e0 e1 e2 e3 e4 e5 e6 e7 e8
    subst e0 e1 e2 e3 e4 e5 e6 e7 e8
    have hk0 : 0 ≤ i0 ∧ i0 ≤ 255 := by
      have a1 : IntKind.u8.min = 0 := rfl
      have a2 : IntKind.u8.max = 255 := rfl
      simp only [Lit.wf, Bool.and_eq_true, decide_eq_true_eq, a1, a2] at k0
      exact k0
    exact ⟨⟨i0, s1, s2, s3, s4, s5, l6, l7, i8⟩, c6, c7, rfl, ⟨g6, q6, g7, ⟨hk0, k1, k2, k3, k4, k5, k6, k7⟩⟩⟩
theorem open_sacts {fuel : Nat} {cs : List Value} {x : DataW H × List MemPlace} (hsp : ∀ b, spare b = true) (h : DataW.trod enc Tryz.prog w base spare held fuel 47 cs = some x) :
    ∃ v l, cs = [v] ∧ SActsAt (fun _ => True) w v l := by
  have hC : Tryz.prog.cellsOf 45 = 9 := by kernel_rfl
  rcases Go.Deep.open_slice (e := 45) (by kernel_rfl) h with ⟨rfl, _⟩ | ⟨a, len, cap, m, n, D, Pl, rfl, _, hl, hm, hmm, _, hx⟩
  · exact ⟨_, [], rfl, ⟨none, 0, rfl, Nat.zero_le _, fun i hi => by simp at hi⟩⟩
  · rw [hsp, if_pos rfl] at hmm
    subst hmm
    rw [hC] at hx
    have each : ∀ i, i < m → ∃ q : (SActD × Value × Value), (∀ j, j < 9 → w.cell? ((a.add (i * 9)).add j) = (encS q.1 q.2.1 q.2.2)[j]?) ∧ SActAt (fun _ => True) w q.1 q.2.1 q.2.2 := by
      intro i hi
      obtain ⟨cs', h1, h2⟩ := hx i hi
      obtain ⟨_, _, h3⟩ := World.cells?_some h1
      obtain ⟨q, vb, vp, rfl, h4⟩ := open_sact hsp h2
      exact ⟨(q, vb, vp), h3, h4⟩
    have ex : ∃ f : Nat → SActD × Value × Value, ∀ i, i < m → (∀ j, j < 9 → w.cell? ((a.add (i * 9)).add j) = (encS (f i).1 (f i).2.1 (f i).2.2)[j]?) ∧ SActAt (fun _ => True) w (f i).1 (f i).2.1 (f i).2.2 := by
      classical
      refine ⟨fun i => if hi : i < m then Classical.choose (each i hi) else (⟨0, ⟨#[]⟩, ⟨#[]⟩, ⟨#[]⟩, ⟨#[]⟩, ⟨#[]⟩, [], [], 0⟩, undef, undef), fun i hi => ?_⟩
      simp only [dif_pos hi]
      exact Classical.choose_spec (each i hi)
    obtain ⟨f, hf⟩ := ex
    refine ⟨_, (List.range len).map fun i => (f i).1, rfl, ⟨some a, m, by simp, by simp; omega, fun i hi => ?_⟩⟩
    have hi' : i < len := by simpa using hi
    have hz := (hf 0 (by omega)).1 0 (by omega)
    have e0 : (a.add (0 * 9)).add 0 = a := rfl
    rw [e0] at hz
    have ea := spot_of (hz.trans rfl)
    obtain ⟨h1, h2⟩ := hf i (by omega)
    refine ⟨a.block, a.off, (f i).2.1, (f i).2.2, by rw [← ea], trivial, ?_, ?_⟩
    · have e : ((List.range len).map fun i => (f i).1)[i] = (f i).1 := by simp
      rw [e]
      intro j v hj
      have hj' : j < 9 := (List.getElem?_eq_some_iff.1 hj).1
      have := h1 j hj'
      rw [ea, addr_add, addr_add] at this
      rw [this]; exact hj
    · have e : ((List.range len).map fun i => (f i).1)[i] = (f i).1 := by simp
      rw [e]; exact h2
end
end Go.Proofs.YtnglkhnfmbnfeaaGreat

/- Vb -/
namespace Go.Proofs.YtnglkhnfmbnfeaaGreat
open Go Go.SK

theorem sls_pair {A B : Nat → Prop} {w : World} {b3 e : Nat} {v1 v2 : Value} {x y : List ByteArray} (h1 : SlS A w v1 x) (h2 : SlS B w v2 y) (h3 : Blk w b3 [v1, v2] e) : SlsAt (fun _ => True) w (.slice (some ⟨b3, 0, none⟩) 2 2) [x, y] := by
  refine ⟨⟨_, 2, rfl, fun i hi => ?_⟩, (show (2 : Nat) ≤ maxLen by decide), fun p n c h e => by cases h; cases e⟩
  match i, hi with
  | 0, _ => exact ⟨b3, 0, _, rfl, trivial, h3.rd 0 1, h1.weaken fun _ _ => trivial⟩
  | 1, _ => exact ⟨b3, 0, _, rfl, trivial, h3.rd 1 1, h2.weaken fun _ _ => trivial⟩
set_option maxHeartbeats 8000000 in
theorem l24_Back {A1 : Nat → Prop} {w : World} {v1 : Value} {l : List ActD} (h1 : ActsAt A1 w v1 l) (bill : ByteArray) (hbill : bill.size ≤ maxLen) (by_ : ByteArray) (hby : by_.size ≤ maxLen) (at_ : Int) (hat_ : (Lit.int .u8 at_).wf = true) (day : Int) (hday : (Lit.int .i64 day).wf = true) :
    Ret Tryz.prog 3 [v1, .string bill, .string by_, .int .u8 at_, .int .i64 day] w fun v w' => v = .bool true ∧ Ex w w' := by
  have hat8 : 0 ≤ at_ ∧ at_ ≤ 255 := by
    have a1 : IntKind.u8.min = 0 := rfl
    have a2 : IntKind.u8.max = 255 := rfl
    simp only [Lit.wf, Bool.and_eq_true, decide_eq_true_eq, a1, a2] at hat_
    exact hat_
  clear hat_ hday
  obtain ⟨p1, cap1, rfl, _, _⟩ := h1.is
  refine ret_of Tryz.func3 Tryz.ntmps3 rfl rfl rfl ?_
  (repeat (first | refine lw_pure hT rfl ?_ | refine lw_nil ?_ | refine cw_seq ?_ | refine cw_region ?_ | refine qw_then ?_))
  refine lw_call hT rfl rfl (l24_awake w) ?_
  rintro _ w1 ⟨rfl, hx1⟩
  (repeat (first | refine lw_pure hT rfl ?_ | (refine lw_gon_f rfl ?_ ?_; focus (first | with_reducible rfl | with_reducible exact Bool.not_false | with_reducible exact Bool.not_true))))
  refine lw_call hT rfl rfl (r23_Few (h1.ex hx1)) ?_
  rintro _ w2 ⟨⟨b1, rfl, hr1⟩, hx2⟩
  have hx02 := hx1.trans hx2
  (repeat (first | refine lw_pure hT rfl ?_ | refine lw_nil ?_ | refine qw_then ?_ | (refine lw_gon_f rfl ?_ ?_; focus (first | with_reducible rfl | with_reducible exact Bool.not_false | with_reducible exact Bool.not_true))))
  refine cw_cond rfl (fun e => ?_) (fun e => ?_)
  · (repeat (first | refine cw_seq ?_ | refine cw_region ?_))
    refine lw_call hT rfl rfl (l24_awake w2) ?_
    rintro _ w3 ⟨rfl, hx3⟩
    (repeat (first | refine lw_pure hT rfl ?_ | refine lw_nil ?_ | refine qw_then ?_ | refine cw_ret ?_ | refine qw_then_ret ?_))
    exact qw_ret rfl ⟨rfl, hx02.trans hx3⟩
  replace hr1 := hr1 (by simpa using e)
  (repeat (first | refine lw_pure hT rfl ?_ | refine cw_seq ?_ | refine cw_region ?_ | refine qw_then ?_ | refine cw_skip ?_))
  refine lw_call hT rfl rfl (l24_begin (h1.ex hx02) hr1) ?_
  rintro _ w4 ⟨⟨p, m, gs, vL, fgs, A', rfl, hP⟩, hx4⟩
  have hx04 := hx02.trans hx4
  have hgood := good_kept h1.ok
  have hlen := hr1.1
  obtain ⟨r0, hr0⟩ : ∃ r0, r0 = runA regC (keptA l) := ⟨_, rfl⟩
  rw [← hr0] at hgood hP
  have hl0 := hgood.len
  have hn04 : ∀ b ∈ foot p m gs, w.heap.size ≤ b := fun b hb => by have := hP.new b hb; have := hx02.size; omega
  (repeat (refine lw_pure hT rfl ?_))
  refine lw_alloc z28 ?_
  intro b8 w5 hbb8 hb8 hx5 hs5
  (repeat (refine lw_pure hT rfl ?_))
  refine lw_store_agg hT rfl rfl rfl rfl (by intro v hv; simp [encR] at hv; rcases hv with rfl | rfl <;> first | rfl | exact Sl.one hP.frep.sl) hb8 (show (2 : Nat) ≤ 2 by decide) ?_
  intro w6 hb86 hx6 hs6
  have hx46 : Ex w4 w6 := hx5.up_new hx6 (fun i h => by omega)
  have hx06 := hx04.trans hx46
  have hR6 := hP.rep.ex hx46
  (repeat (first | refine lw_pure hT rfl ?_ | refine lw_nil ?_ | refine cw_seq ?_ | refine cw_region ?_ | refine qw_then ?_))
  refine lw_call hT rfl rfl (reg_Get hR6 (hgood.small (by omega)) bill) ?_
  rintro _ w7 ⟨hget, hx7⟩
  have hx07 := hx06.trans hx7
  unfold GetR at hget
  cases hat : r0.at? bill with
  | none =>
    rw [hat] at hget
    dsimp only at hget
    subst hget
    (repeat (refine lw_pure hT rfl ?_))
    refine lw_alloc z33 ?_
    intro b13 w8 hbb13 hb13 hx8 hs8
    skip
    refine lw_store_agg hT rfl rfl rfl rfl (encB_one (A := fun _ => True) (w := w) rfl rfl) hb13 (show (9 : Nat) ≤ 9 by decide) ?_
    intro w9 hb9 hx9 hs9
    have hx79 : Ex w7 w9 := hx8.up_new hx9 (fun i h => by omega)
    (repeat (first | refine lw_pure hT rfl ?_ | refine lw_nil ?_ | refine cw_seq ?_ | refine cw_region ?_ | refine qw_then ?_ | refine cw_ret ?_ | refine qw_then_ret ?_ | (refine lw_goff_t rfl ?_ ?_; focus (first | with_reducible rfl | with_reducible exact Bool.not_false | with_reducible exact Bool.not_true)) | (refine cw_cond_t rfl ?_ ?_; focus (first | with_reducible rfl | with_reducible exact Bool.not_false | with_reducible exact Bool.not_true))))
    exact qw_ret rfl ⟨rfl, hx07.trans hx79⟩
  | some x =>
    rw [hat] at hget
    obtain ⟨ub, up, rfl, hub, hup⟩ := hget
    obtain ⟨a1, c1, rfl⟩ := own_slice0 hub
    obtain ⟨a2, c2, rfl⟩ := own_slice0 hup
    have hxm := at_mem hat
    have hxok := (hgood.ent x hxm).ok
    have hbm := (may_len (hgood.ent x hxm).may).1
    (repeat (refine lw_pure hT rfl ?_))
    refine lw_alloc z33 ?_
    intro b13 w8 hbb13 hb13 hx8 hs8
    skip
    refine lw_store_agg hT rfl rfl rfl rfl (encB_one (A := fun _ => True) (w := w) rfl rfl) hb13 (show (9 : Nat) ≤ 9 by decide) ?_
    intro w9 hb9 hx9 hs9
    replace hb9 : Blk w9 b13 (encB x.bill (.slice a1 x.bill.boxes.length c1) (.slice a2 x.bill.parents.length c2)) 33 := hb9
    have hx79 : Ex w7 w9 := hx8.up_new hx9 (fun i h => by omega)
    have hx09 := hx07.trans hx79
    have hR9 := (hR6.ex hx7).ex hx79
    (repeat (first | refine lw_pure hT rfl ?_ | refine lw_nil ?_ | refine cw_seq ?_ | refine cw_region ?_ | refine qw_then ?_ | (refine lw_gon_f rfl ?_ ?_; focus (first | with_reducible rfl | with_reducible exact Bool.not_false | with_reducible exact Bool.not_true))))
    refine lw_load hT rfl rfl (v := .slice a1 x.bill.boxes.length c1) (hb9.cell 5) ?_
    (repeat (first | refine lw_pure hT rfl ?_ | (refine lw_gon_f rfl ?_ ?_; focus (first | with_reducible rfl | with_reducible exact Bool.not_false | with_reducible exact Bool.not_true))))
    refine lw_guard rfl (fun e => ?_) (fun e => ?_)
    · (repeat (first | refine lw_pure hT rfl ?_ | refine lw_nil ?_ | refine cw_seq ?_ | refine cw_region ?_ | refine qw_then ?_ | refine cw_ret ?_ | refine qw_then_ret ?_ | (refine lw_goff_t rfl ?_ ?_; focus (first | with_reducible rfl | with_reducible exact Bool.not_false | with_reducible exact Bool.not_true)) | (refine cw_cond_t rfl ?_ ?_; focus (first | with_reducible rfl | with_reducible exact Bool.not_false | with_reducible exact Bool.not_true))))
      exact qw_ret rfl ⟨rfl, hx09⟩
    have hn2 : 2 ≤ x.bill.boxes.length := by have := of_decide_eq_false e; omega
    (repeat (first | refine lw_pure hT rfl ?_ | (refine lw_gon_f rfl ?_ ?_; focus (first | with_reducible rfl | with_reducible exact Bool.not_false | with_reducible exact Bool.not_true))))
    refine lw_call hT rfl rfl (reg_Full hR9 bill by_) ?_
    rintro _ w10 ⟨rfl, hx10⟩
    have hx010 := hx09.trans hx10
    rw [full_of hat]
    (repeat (first | refine lw_pure hT rfl ?_ | refine lw_nil ?_ | refine qw_then ?_ | (refine lw_gon_f rfl ?_ ?_; focus (first | with_reducible rfl | with_reducible exact Bool.not_false | with_reducible exact Bool.not_true))))
    refine cw_cond rfl (fun e => ?_) (fun e => ?_)
    · (repeat (first | refine lw_pure hT rfl ?_ | refine lw_nil ?_ | refine cw_seq ?_ | refine cw_region ?_ | refine qw_then ?_ | refine cw_ret ?_ | refine qw_then_ret ?_))
      exact qw_ret rfl ⟨rfl, hx010⟩
    have hfull : x.full by_ = true := by simpa using e
    have hR10 := hR9.ex hx10
    have hb10 := hb9.ex hx10
    have hub10 := own_ex (own_ex hub hx79) hx10
    obtain ⟨gb, cb, heq⟩ := own_slice hub10 (by omega)
    simp only [Value.slice.injEq, true_and] at heq
    obtain ⟨rfl, rfl⟩ := heq
    have hcap := own_cap hub10 _ _ _ rfl
    have hsb : SlS (fun _ => True) w10 (.slice (some ⟨gb, 0, none⟩) x.bill.boxes.length c1) x.bill.boxes := sls_own hub10 fun _ _ => trivial
    obtain ⟨n, hn⟩ : ∃ n, n = x.bill.boxes.length := ⟨_, rfl⟩
    rw [← hn] at hn2 hbm hcap hsb hb10 ⊢
    (repeat (first | (refine lw_conv64 hT rfl rfl rfl ?_ ?_ ?_; iterate 2 omega) | refine lw_pure hT rfl ?_ | refine cw_seq ?_ | refine cw_region ?_ | refine qw_then ?_ | refine cw_skip ?_))
    refine lw_load hT rfl rfl (v := .slice (some ⟨gb, 0, none⟩) n c1) (hb10.cell 5) ?_
    (repeat (first | (refine lw_sub rfl rfl ?_ ?_ ?_; iterate 2 omega) | refine lw_pure hT rfl ?_))
    refine lw_rem rfl rfl (by omega) ?_
    have ek : at_.tmod ((n : Int) - 1) = ((at_.toNat % (n - 1) : Nat) : Int) := by
      rw [Int.tmod_eq_emod_of_nonneg hat8.1]
      have e1 : at_ = (at_.toNat : Int) := by omega
      have e2 : ((n : Int) - 1) = ((n - 1 : Nat) : Int) := by omega
      rw [e1, e2, ← Int.natCast_emod]; rfl
    have hkl : at_.toNat % (n - 1) < n - 1 := Nat.mod_lt _ (by omega)
    rw [ek]
    obtain ⟨kk, hkk⟩ : ∃ kk, kk = 1 + at_.toNat % (n - 1) := ⟨_, rfl⟩
    have hk1 : 1 ≤ kk ∧ kk < n := by omega
    (repeat (first | (refine lw_add rfl rfl ?_ ?_ ?_; iterate 2 omega) | refine lw_pure hT rfl ?_ | refine lw_nil ?_ | refine cw_seq ?_ | refine qw_then ?_))
    rw [show (1 : Int) + ((at_.toNat % (n - 1) : Nat) : Int) = (kk : Int) from by omega]
    have hzl : (x.bill.boxes.map fun s => [Value.string s]).length = n := by rw [List.length_map, hn]
    have hTk := hsb.cutTo (i := kk) (by rw [hzl]; omega)
    have hDr := hsb.cutFrom (i := kk) (m := n - kk) (by rw [hzl]; omega) (by rw [hzl]) hcap
    rw [← List.map_take] at hTk
    rw [← List.map_drop] at hDr
    obtain ⟨s1, hs1⟩ : ∃ s1, s1 = x.bill.boxes.take kk := ⟨_, rfl⟩
    obtain ⟨s2, hs2⟩ : ∃ s2, s2 = x.bill.boxes.drop kk := ⟨_, rfl⟩
    have hs12 : s1 ++ s2 = x.bill.boxes := by rw [hs1, hs2, List.take_append_drop]
    rw [← hs1] at hTk
    rw [← hs2] at hDr
    have hs1l : s1.length ≤ 64 := by have := congrArg List.length hs12; rw [List.length_append] at this; omega
    have hs2l : s2.length ≤ 64 := by have := congrArg List.length hs12; rw [List.length_append] at this; omega
    have hsok : ∀ q ∈ [s1, s2], ∀ z ∈ q, z.size ≤ maxLen := by
      intro q hq z hz
      refine hxok.boxes z ?_
      rw [← hs12]
      simp only [List.mem_cons, List.not_mem_nil, or_false] at hq
      rcases hq with rfl | rfl
      · exact List.mem_append_left _ hz
      · exact List.mem_append_right _ hz
    have hsql : ∀ q ∈ [s1, s2], q.length ≤ 1000 := by
      intro q hq
      simp only [List.mem_cons, List.not_mem_nil, or_false] at hq
      rcases hq with rfl | rfl <;> omega
    have hnums : ∀ z ∈ [half1, half2], z.size ≤ maxLen := by intro z hz; simp at hz; rcases hz with rfl | rfl <;> decide
    have hsplit := fun (w' : World) (b71 b72 : Nat) (hx : Ex w10 w') (h1 : SlsAt (fun _ => True) w' (.slice (some ⟨b71, 0, none⟩) 2 2) [s1, s2]) (h2 : SlS (fun _ => True) w' (.slice (some ⟨b72, 0, none⟩) 2 2) [half1, half2]) => spl_Split (hR10.ex hx) hgood (by omega) bill by_ day h1 h2 hbill hby hnums hsok hsql (show (2 : Nat) ≤ 1000 by decide)
    obtain ⟨c0, hc0⟩ : ∃ c0, c0 = splitC r0 bill by_ [s1, s2] [half1, half2] day := ⟨_, rfl⟩
    rw [← hc0] at hsplit
    skip
    refine cw_cut_any (α := Unit) (fun _ => [(1, .string bill), (2, .string by_), (4, .int .i64 day), (11, .pointer (some ⟨p, 0, none⟩)), (13, .pointer (some ⟨b13, 0, none⟩)), (75, .bool (decide (callC r0 c0 ≠ 0)))])
      (fun _ w' => ∃ w11, Ex w10 w11 ∧ Mut w11 p m gs (callR r0 c0) w') ?_ ?_
    · refine cw_draw hM (fun w' => Ex w10 w') [14] rfl rfl (by repeat (first | with_reducible refine nop_then ?_ | with_reducible refine nop_block ?_ | with_reducible exact nop_body)) (fun w11 hx11 _ => ⟨hx11, ?_⟩)
      (refine rw_takeP 0 rfl rfl (by kernel_rfl) (by kernel_rfl) (by kernel_rfl) (by kernel_rfl) rfl (yo_pure hT rfl) ?_; refine rw_takeP 1 rfl rfl (by kernel_rfl) (by kernel_rfl) (by kernel_rfl) (by kernel_rfl) rfl (yo_pure hT rfl) ?_; refine rw_takeP 2 rfl rfl (by kernel_rfl) (by kernel_rfl) (by kernel_rfl) (by kernel_rfl) rfl (yo_pure hT rfl) ?_; refine rw_takeP 3 rfl rfl (by kernel_rfl) (by kernel_rfl) (by kernel_rfl) (by kernel_rfl) rfl (yo_pure hT rfl) ?_)
      refine rw_take 4 rfl rfl (by kernel_rfl) (by kernel_rfl) (by kernel_rfl) (by kernel_rfl) rfl (yo_load hT rfl rfl (v := .slice (some ⟨gb, 0, none⟩) n c1) (fun w' hS => (hb10.ex hS).cell 5)) ?_
      (refine rw_takeP 5 rfl rfl (by kernel_rfl) (by kernel_rfl) (by kernel_rfl) (by kernel_rfl) rfl (yo_pure hT rfl) ?_)
      refine rw_takeP 6 rfl rfl (by kernel_rfl) (by kernel_rfl) (by kernel_rfl) (by kernel_rfl) rfl (yo_slice_sl hT rfl rfl rfl rfl 0 kk rfl rfl (Nat.zero_le _) (by omega)) ?_
      (refine rw_takeP 7 rfl rfl (by kernel_rfl) (by kernel_rfl) (by kernel_rfl) (by kernel_rfl) rfl (yo_pure hT rfl) ?_)
      refine rw_take 8 rfl rfl (by kernel_rfl) (by kernel_rfl) (by kernel_rfl) (by kernel_rfl) rfl (yo_load hT rfl rfl (v := .slice (some ⟨gb, 0, none⟩) n c1) (fun w' hS => (hb10.ex hS).cell 5)) ?_
      (refine rw_takeP 9 rfl rfl (by kernel_rfl) (by kernel_rfl) (by kernel_rfl) (by kernel_rfl) rfl (yo_pure hT rfl) ?_)
      refine rw_takeP 10 rfl rfl (by kernel_rfl) (by kernel_rfl) (by kernel_rfl) (by kernel_rfl) rfl (yo_slice_sl hT rfl rfl rfl rfl kk n rfl rfl (by omega) hcap) ?_
      (refine rw_takeP 13 rfl rfl (by kernel_rfl) (by kernel_rfl) (by kernel_rfl) (by kernel_rfl) rfl (yo_pure hT rfl) ?_)
      refine rw_two 11 12 rfl rfl (by kernel_rfl) rfl rfl (fun hcl => ?_) (fun hcl => ?_)
      · refine lw_buildSlice sl39 rfl rfl rfl ?_
        intro b71 w12 hbb71 hb71 hx12 hs12'
        have hx1012 := hx11.trans hx12
        (repeat (refine lw_nil ?_))
        refine qw_rw (by repeat (first | with_reducible refine nop_then ?_ | with_reducible refine nop_block ?_ | with_reducible exact nop_body)) hcl (fun _ => hx1012) ?_
        refine rw_one 12 rfl (by kernel_rfl) rfl (fun hcl => ?_)
        refine lw_buildSlice sl31 rfl rfl rfl ?_
        intro b72 w13 hbb72 hb72 hx13 hs13
        have hx1013 := hx1012.trans hx13
        (repeat (refine lw_nil ?_))
        refine qw_rw (by repeat (first | with_reducible refine nop_then ?_ | with_reducible refine nop_block ?_ | with_reducible exact nop_body)) hcl (fun _ => hx1013) ?_
        refine rw_one 14 rfl (by kernel_rfl) rfl (fun hcl => ?_)
        refine lw_call hT rfl rfl (hsplit w13 b71 b72 hx1013 (sls_pair (hTk.ex hx1013) (hDr.ex hx1013) (hb71.ex hx13)) (sls_of_blk (l := [half1, half2]) hb72 (by decide))) ?_
        rintro _ w14 ⟨rfl, hm14⟩
        (repeat (refine lw_nil ?_))
        refine qw_rw (by repeat (first | with_reducible refine nop_then ?_ | with_reducible refine nop_block ?_ | with_reducible exact nop_body)) hcl (fun h => absurd h (by decide)) ?_
        (refine rw_takeP 15 rfl rfl (by kernel_rfl) (by kernel_rfl) (by kernel_rfl) (by kernel_rfl) rfl (yo_pure hT rfl) ?_)
        refine rw_done (by kernel_rfl) ?_
        exact qw_cut () (by repeat (first | exact trivial | refine ⟨rfl, ?_⟩)) ⟨w13, hx1013, hm14⟩
      · refine lw_buildSlice sl31 rfl rfl rfl ?_
        intro b72 w12 hbb72 hb72 hx12 hs12'
        have hx1012 := hx11.trans hx12
        (repeat (refine lw_nil ?_))
        refine qw_rw (by repeat (first | with_reducible refine nop_then ?_ | with_reducible refine nop_block ?_ | with_reducible exact nop_body)) hcl (fun _ => hx1012) ?_
        refine rw_one 11 rfl (by kernel_rfl) rfl (fun hcl => ?_)
        refine lw_buildSlice sl39 rfl rfl rfl ?_
        intro b71 w13 hbb71 hb71 hx13 hs13
        have hx1013 := hx1012.trans hx13
        (repeat (refine lw_nil ?_))
        refine qw_rw (by repeat (first | with_reducible refine nop_then ?_ | with_reducible refine nop_block ?_ | with_reducible exact nop_body)) hcl (fun _ => hx1013) ?_
        refine rw_one 14 rfl (by kernel_rfl) rfl (fun hcl => ?_)
        refine lw_call hT rfl rfl (hsplit w13 b71 b72 hx1013 (sls_pair (hTk.ex hx1013) (hDr.ex hx1013) hb71) (sls_of_blk (l := [half1, half2]) (hb72.ex hx13) (by decide))) ?_
        rintro _ w14 ⟨rfl, hm14⟩
        (repeat (refine lw_nil ?_))
        refine qw_rw (by repeat (first | with_reducible refine nop_then ?_ | with_reducible refine nop_block ?_ | with_reducible exact nop_body)) hcl (fun h => absurd h (by decide)) ?_
        (refine rw_takeP 15 rfl rfl (by kernel_rfl) (by kernel_rfl) (by kernel_rfl) (by kernel_rfl) rfl (yo_pure hT rfl) ?_)
        refine rw_done (by kernel_rfl) ?_
        exact qw_cut () (by repeat (first | exact trivial | refine ⟨rfl, ?_⟩)) ⟨w13, hx1013, hm14⟩
    · rintro _ w14 ⟨w13, hx13, hm14⟩
      obtain ⟨gs14, hR14, hf14⟩ := hm14.is
      have hx013 := hx010.trans hx13
      have hx014 : Ex w w14 := hm14.new hx013 hn04
      have hn14 := foot_new hx013 hn04 hf14
      have hfl10 : ∀ b ∈ foot p m gs, b < w4.heap.size := fun b hb => hP.rep.foot_lt hb
      have l46 := hx46.size
      have l67 := hx7.size
      have l79 := hx79.size
      have l910 := hx10.size
      have hb14 : Blk w14 b13 (encB x.bill (.slice (some ⟨gb, 0, none⟩) n c1) (.slice a2 x.bill.parents.length c2)) 33 := (hb10.ex hx13).ext hm14.ext (fun h => by have := hfl10 _ h; omega)
      have hgb := own_base hub (b := gb) rfl
      have hsb14 : SlS (· = gb) w14 (.slice (some ⟨gb, 0, none⟩) n c1) x.bill.boxes := by
        have h9 : SlS (· = gb) w10 (.slice (some ⟨gb, 0, none⟩) n c1) x.bill.boxes := by rw [hn]; exact sls_own hub10 fun b hb => by (simp only [Value.ownBlock, Option.some.injEq] at hb; exact hb.symm)
        exact (h9.ex hx13).ext hm14.ext (fun b hb h => by subst hb; have := hfl10 _ h; omega)
      (repeat (refine qw_then ?_))
      refine cw_cond rfl (fun e => ?_) (fun e => ?_)
      · have hne : callC r0 c0 ≠ 0 := of_decide_eq_true e
        rw [callR_ne hne] at hR14
        (repeat (first | refine lw_pure hT rfl ?_ | refine cw_seq ?_ | refine cw_region ?_))
        refine lw_call hT rfl rfl (reg_Full hR14 bill by_) ?_
        rintro _ w15 ⟨rfl, hx15⟩
        rw [full_of hat, hfull]
        (repeat (first | refine lw_pure hT rfl ?_ | refine lw_nil ?_ | refine qw_then ?_ | refine cw_ret ?_ | refine qw_then_ret ?_))
        exact qw_ret rfl ⟨rfl, hx014.trans hx15⟩
      have hz0 : callC r0 c0 = 0 := by simpa using e
      obtain ⟨r1, hr1'⟩ : ∃ r1, r1 = callR r0 c0 := ⟨_, rfl⟩
      have hback := back_split hgood hbill hby hsok (by rw [← hc0]; exact hz0)
      rw [← hc0, ← hr1'] at hback
      obtain ⟨x', hat', hperm, hdayB, hgone⟩ := hback
      rw [hat] at hat'
      cases hat'
      have hG1 : Good (l.length + 65) r1 := by
        rw [hr1', hc0]
        obtain ⟨N, hA, x2, _, _, _, _, _⟩ := split_act hgood (by_ := by_) (day := day) (by rw [← hc0]; exact (callC_zero hz0).1) hbill hsok hnums
        refine good_callR hgood ?_ ?_
        · rw [hA.eq]; exact goL_ok hby hA.ok hA.new
        · rw [hA.eq, goL_len]; exact hA.len
      have hcr1 : r1.carrier = r0.carrier := by rw [hr1']; exact callR_carrier _ _
      rw [← hr1'] at hR14
      have ah1 : r1.at? half1 = some (newEnt (nextB x.bill half1 s1 [bill] day) by_) := (hgone.new _ (List.mem_cons_self)).2.2.2
      have ah2 : r1.at? half2 = some (newEnt (nextB x.bill half2 s2 [bill] day) by_) := (hgone.new (nextB x.bill half2 s2 [bill] day) (by simp)).2.2.2
      obtain ⟨xo, _, _, _, _, hold⟩ := hgone.old bill (by simp)
      (repeat (first | refine lw_pure hT rfl ?_ | refine cw_seq ?_ | refine cw_region ?_ | refine qw_then ?_ | refine cw_skip ?_))
      refine lw_call hT rfl rfl (reg_Full hR14 half1 by_) ?_
      rintro _ w15 ⟨rfl, hx15⟩
      rw [full_of ah1, full_new]
      (repeat (first | refine lw_pure hT rfl ?_ | (refine lw_gon_f rfl ?_ ?_; focus (first | with_reducible rfl | with_reducible exact Bool.not_false | with_reducible exact Bool.not_true))))
      refine lw_call hT rfl rfl (reg_Full (hR14.ex hx15) half2 by_) ?_
      rintro _ w16 ⟨rfl, hx16⟩
      rw [full_of ah2, full_new]
      have hx1416 := hx15.trans hx16
      (repeat (first | refine lw_pure hT rfl ?_ | (refine lw_gon_f rfl ?_ ?_; focus (first | with_reducible rfl | with_reducible exact Bool.not_false | with_reducible exact Bool.not_true))))
      refine lw_call hT rfl rfl (reg_Full (hR14.ex hx1416) bill by_) ?_
      rintro _ w17 ⟨rfl, hx17⟩
      rw [full_of hold, full_dead (show (4 : Int) ≠ 0 by decide)]
      have hx1417 := hx1416.trans hx17
      (repeat (first | refine lw_pure hT rfl ?_ | refine lw_nil ?_ | refine cw_seq ?_ | refine cw_region ?_ | refine qw_then ?_ | refine cw_skip ?_ | (refine cw_cond_f rfl ?_ ?_; focus (first | with_reducible rfl | with_reducible exact Bool.not_false | with_reducible exact Bool.not_true))))
      refine lw_buildSlice sl31 rfl rfl rfl ?_
      intro b97 w18 hbb97 hb97 hx18 hs18
      have hx1418 := hx1417.trans hx18
      (repeat (refine lw_pure hT rfl ?_))
      obtain ⟨c2', hc2'⟩ : ∃ c, c = joinC r1 [half1, half2] by_ whole day := ⟨_, rfl⟩
      refine lw_call hT rfl rfl (spl_Join (hR14.ex hx1418) hG1 (by omega) by_ whole day (sls_of_blk (l := [half1, half2]) hb97 (by decide)) hnums hby (by decide)) ?_
      rintro _ w19 ⟨rfl, hm19⟩
      rw [← hc2'] at hm19 ⊢
      obtain ⟨gs19, hR19, hf19⟩ := hm19.is
      have hx018 := hx014.trans hx1418
      have hx019 : Ex w w19 := hm19.new hx018 hn14
      (repeat (first | refine lw_pure hT rfl ?_ | refine lw_nil ?_ | refine qw_then ?_))
      refine cw_cond rfl (fun e => ?_) (fun e => ?_)
      · have hne : callC r1 c2' ≠ 0 := of_decide_eq_true e
        rw [callR_ne hne] at hR19
        (repeat (first | refine lw_pure hT rfl ?_ | refine cw_seq ?_ | refine cw_region ?_))
        refine lw_call hT rfl rfl (reg_State hR19 whole) ?_
        rintro _ _ ⟨rfl, rfl⟩
        have hst : 0 ≤ r1.stateOf whole := by
          cases hw : r1.at? whole with
          | none =>
            exfalso
            exact hne (by rw [hc2']; exact back_join hgood hG1 hby hat hperm hdayB (by omega) hgone hcr1 hw)
          | some y =>
            rw [state_of hw]
            rcases (hG1.ent y (at_mem hw)).st with h | h | h
            · rw [h.1]; decide
            · rw [h.1]; decide
            · rw [h.1]; decide
        (repeat (first | refine lw_pure hT rfl ?_ | refine lw_nil ?_ | refine qw_then ?_ | refine cw_ret ?_ | refine qw_then_ret ?_))
        refine qw_ret rfl ⟨?_, hx019⟩
        show Value.bool _ = _
        congr 1
        exact decide_eq_true hst
      have hz2 : callC r1 c2' = 0 := by simpa using e
      have hwh := back_whole hG1 hby hgone (by rw [← hc2']; exact hz2)
      rw [← hc2'] at hwh
      obtain ⟨r2, hr2⟩ : ∃ r2, r2 = callR r1 c2' := ⟨_, rfl⟩
      rw [← hr2] at hwh hR19
      have hG2 : Good (l.length + 130) r2 := by
        rw [hr2, hc2']
        obtain ⟨y, ys, _, _, hA⟩ := join_act hG1 (by_ := by_) (day := day) (by rw [← hc2']; exact (callC_zero hz2).1) hnums (show whole.size ≤ maxLen by decide)
        exact (good_callR hG1 (by rw [hA.eq]; exact goL_ok hby hA.ok hA.new) (by rw [hA.eq, goL_len]; exact hA.len)).mono (by omega)
      obtain ⟨bw, hbw⟩ : ∃ bw, bw = nextB (nextB x.bill half1 s1 [bill] day) whole (s1 ++ s2) [half1, half2] day := ⟨_, rfl⟩
      rw [← hbw] at hwh
      have hbwb : bw.boxes = x.bill.boxes := by rw [hbw]; exact hs12
      have e2 : bw.shipper = x.bill.shipper := by rw [hbw]; rfl
      have e3 : bw.frm = x.bill.frm := by rw [hbw]; rfl
      have e4 : bw.to_ = x.bill.to_ := by rw [hbw]; rfl
      have e5 : bw.clean = x.bill.clean := by rw [hbw]; rfl
      have e6 : bw.issued = day := by rw [hbw]; rfl
      (repeat (first | refine lw_pure hT rfl ?_ | refine cw_seq ?_ | refine cw_region ?_ | refine qw_then ?_ | refine cw_skip ?_))
      refine lw_call hT rfl rfl (reg_Get hR19 (hG2.small (by omega)) whole) ?_
      rintro _ w20 ⟨hget, hx20⟩
      unfold GetR at hget
      rw [hwh] at hget
      obtain ⟨ub2, up2, rfl, hub2, hup2⟩ := hget
      replace hub2 : w20.ownsRow w19.heap.size 9 1 ub2 bw.boxes.length (bw.boxes.map Value.string) := hub2
      have o1 := own_one hub2
      have o2 := own_one hup2
      (repeat (refine lw_pure hT rfl ?_))
      refine lw_alloc z33 ?_
      intro b16 w21 hbb16 hb16 hx21 hs21
      skip
      refine lw_store_agg hT rfl rfl rfl rfl (encB_one (A := fun _ => True) (w := w) o1 o2) hb16 (show (9 : Nat) ≤ 9 by decide) ?_
      intro w22 hb22 hx22 hs22
      replace hb22 : Blk w22 b16 (encB bw ub2 up2) 33 := hb22
      have hx2022 : Ex w20 w22 := hx21.up_new hx22 (fun i h => by omega)
      have hx1922 := hx20.trans hx2022
      have hfl14 : ∀ b ∈ foot p m gs14, b ∈ foot p m gs ∨ w13.heap.size ≤ b := hf14
      have l1013 := hx13.size
      have hb1322 : Blk w22 b13 (encB x.bill (.slice (some ⟨gb, 0, none⟩) n c1) (.slice a2 x.bill.parents.length c2)) 33 := ((hb14.ex hx1418).ext hm19.ext (fun h => by
        rcases hfl14 _ h with h | h
        · have := hfl10 _ h; omega
        · have := hb10.lt; omega)).ex hx1922
      have hgb10 : gb < w10.heap.size := by have := hgb.2; omega
      have hsb22 : SlS (· = gb) w22 (.slice (some ⟨gb, 0, none⟩) n c1) x.bill.boxes := ((hsb14.ex hx1418).ext hm19.ext (fun b hb h => by
        subst hb
        rcases hfl14 _ h with h | h
        · have := hfl10 _ h; omega
        · omega)).ex hx1922
      (repeat (first | refine lw_pure hT rfl ?_ | refine lw_nil ?_ | refine cw_seq ?_ | refine cw_region ?_ | refine qw_then ?_ | (refine lw_gon_t rfl ?_ ?_; focus (first | with_reducible rfl | with_reducible exact Bool.not_false | with_reducible exact Bool.not_true))))
      refine lw_load hT rfl rfl (v := ub2) (hb22.cell 5) ?_
      (repeat (first | refine lw_pure hT rfl ?_ | (refine lw_gon_t rfl ?_ ?_; focus (first | with_reducible rfl | with_reducible exact Bool.not_false | with_reducible exact Bool.not_true))))
      refine lw_load hT rfl rfl (v := .slice (some ⟨gb, 0, none⟩) n c1) (hb1322.cell 5) ?_
      (repeat (refine lw_gon_t rfl ?_ ?_; focus (first | with_reducible rfl | with_reducible exact Bool.not_false | with_reducible exact Bool.not_true)))
      have hsu : SlS (fun _ => True) w22 ub2 x.bill.boxes := by rw [← hbwb]; exact sls_own (own_ex hub2 hx2022) fun _ _ => trivial
      refine lw_call hT rfl rfl (r_Same w22 hsu hsb22) ?_
      rintro _ w23 ⟨rfl, hx23⟩
      have hb223 := hb22.ex hx23
      have hb1323 := hb1322.ex hx23
      (repeat (refine lw_pure hT rfl ?_))
      refine lw_guard rfl (fun _ => ?_) (fun h => absurd h (by simp))
      (repeat (first | refine lw_pure hT rfl ?_ | (refine lw_gon_t rfl ?_ ?_; focus (first | with_reducible rfl | with_reducible exact Bool.not_false | with_reducible exact Bool.not_true))))
      refine lw_load hT rfl rfl (v := .string bw.shipper) (hb223.cell 2) ?_
      (repeat (first | refine lw_pure hT rfl ?_ | (refine lw_gon_t rfl ?_ ?_; focus (first | with_reducible rfl | with_reducible exact Bool.not_false | with_reducible exact Bool.not_true))))
      refine lw_load hT rfl rfl (v := .string x.bill.shipper) (hb1323.cell 2) ?_
      rw [e2]
      (repeat (first | refine lw_pure hT rfl ?_ | (refine lw_gon_t rfl ?_ ?_; focus (first | with_reducible rfl | with_reducible exact Bool.not_false | with_reducible exact Bool.not_true))))
      refine lw_guard rfl (fun _ => ?_) (fun h => absurd h (by simp))
      (repeat (first | refine lw_pure hT rfl ?_ | (refine lw_gon_t rfl ?_ ?_; focus (first | with_reducible rfl | with_reducible exact Bool.not_false | with_reducible exact Bool.not_true))))
      refine lw_load hT rfl rfl (v := .string bw.frm) (hb223.cell 3) ?_
      (repeat (first | refine lw_pure hT rfl ?_ | (refine lw_gon_t rfl ?_ ?_; focus (first | with_reducible rfl | with_reducible exact Bool.not_false | with_reducible exact Bool.not_true))))
      refine lw_load hT rfl rfl (v := .string x.bill.frm) (hb1323.cell 3) ?_
      rw [e3]
      (repeat (first | refine lw_pure hT rfl ?_ | (refine lw_gon_t rfl ?_ ?_; focus (first | with_reducible rfl | with_reducible exact Bool.not_false | with_reducible exact Bool.not_true))))
      refine lw_guard rfl (fun _ => ?_) (fun h => absurd h (by simp))
      (repeat (first | refine lw_pure hT rfl ?_ | (refine lw_gon_t rfl ?_ ?_; focus (first | with_reducible rfl | with_reducible exact Bool.not_false | with_reducible exact Bool.not_true))))
      refine lw_load hT rfl rfl (v := .string bw.to_) (hb223.cell 4) ?_
      (repeat (first | refine lw_pure hT rfl ?_ | (refine lw_gon_t rfl ?_ ?_; focus (first | with_reducible rfl | with_reducible exact Bool.not_false | with_reducible exact Bool.not_true))))
      refine lw_load hT rfl rfl (v := .string x.bill.to_) (hb1323.cell 4) ?_
      rw [e4]
      (repeat (first | refine lw_pure hT rfl ?_ | (refine lw_gon_t rfl ?_ ?_; focus (first | with_reducible rfl | with_reducible exact Bool.not_false | with_reducible exact Bool.not_true))))
      refine lw_guard rfl (fun _ => ?_) (fun h => absurd h (by simp))
      (repeat (first | refine lw_pure hT rfl ?_ | (refine lw_gon_t rfl ?_ ?_; focus (first | with_reducible rfl | with_reducible exact Bool.not_false | with_reducible exact Bool.not_true))))
      refine lw_load hT rfl rfl (v := .bool bw.clean) (hb223.cell 8) ?_
      (repeat (first | refine lw_pure hT rfl ?_ | (refine lw_gon_t rfl ?_ ?_; focus (first | with_reducible rfl | with_reducible exact Bool.not_false | with_reducible exact Bool.not_true))))
      refine lw_load hT rfl rfl (v := .bool x.bill.clean) (hb1323.cell 8) ?_
      rw [e5]
      refine lw_gon_t rfl rfl ?_
      refine lw_eq_bool (by kernel_rfl) rfl rfl ?_
      (repeat (refine lw_pure hT rfl ?_))
      refine lw_guard rfl (fun _ => ?_) (fun h => absurd h (by simp))
      (repeat (first | refine lw_pure hT rfl ?_ | (refine lw_gon_t rfl ?_ ?_; focus (first | with_reducible rfl | with_reducible exact Bool.not_false | with_reducible exact Bool.not_true))))
      refine lw_call hT rfl rfl (reg_Full ((hR19.ex hx1922).ex hx23) whole by_) ?_
      rintro _ w24 ⟨rfl, hx24⟩
      rw [full_of hwh, full_new]
      (repeat (first | refine lw_pure hT rfl ?_ | (refine lw_gon_t rfl ?_ ?_; focus (first | with_reducible rfl | with_reducible exact Bool.not_false | with_reducible exact Bool.not_true))))
      refine lw_load hT rfl rfl (v := .int .i64 bw.issued) ((hb223.ex hx24).cell 7) ?_
      rw [e6]
      (repeat (first | refine lw_pure hT rfl ?_ | refine lw_nil ?_ | refine qw_then ?_ | refine cw_ret ?_ | (refine lw_gon_t rfl ?_ ?_; focus (first | with_reducible rfl | with_reducible exact Bool.not_false | with_reducible exact Bool.not_true))))
      exact qw_ret rfl ⟨by simp [oneOr], ((hx019.trans hx1922).trans hx23).trans hx24⟩
end Go.Proofs.YtnglkhnfmbnfeaaGreat
