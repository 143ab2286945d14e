/- Texts of ours, laid together, part 5: the walking kit, the model, contracts of functions, plain laws. -/
import Derived.Test.YtnglkhnfmbnfeaaGreatM4
import Derived.Shelf.SlIter.Nil
import Derived.Shelf.SortM.Plain
import Derived.Shelf.SortM.SortNone
import Derived.Ground.GgzProg
import Derived.Ground.SlgmProg
import Derived.Test.YtnglkhnfmbnfeaaGreatProg
import Derived.Laws.StructEq
import Derived.Sort.Walk0
set_option linter.unusedVariables false
set_option linter.unusedSimpArgs false
set_option linter.unusedSectionVars false
set_option linter.unnecessarySimpa false
/- Qa -/
namespace Go.Proofs.YtnglkhnfmbnfeaaGreat
open Go Go.SK

/-- Steps: the first refusal, or none. -/
def stepsC : RegD → List ActD → Int
  | _, [] => 0
  | r, a :: l => if actC r a = 0 then stepsC (doA r a) l else actC r a
def stepsR (r : RegD) (l : List ActD) : RegD := if stepsC r l = 0 then runA r l else r
theorem stepsC_append (r : RegD) : ∀ (l l' : List ActD), stepsC r (l ++ l') = if stepsC r l = 0 then stepsC (runA r l) l' else stepsC r l
  | [], l' => rfl
  | a :: l, l' => by
    by_cases h : actC r a = 0
    · have e : ∀ m, stepsC r (a :: m) = stepsC (doA r a) m := fun m => by simp only [stepsC]; rw [if_pos h]
      rw [List.cons_append, e, e, stepsC_append (doA r a) l l']; rfl
    · have e : ∀ m, stepsC r (a :: m) = actC r a := fun m => by simp only [stepsC]; rw [if_neg h]
      rw [List.cons_append, e, e, if_neg h]
theorem stepsC_snoc (r : RegD) (l : List ActD) (a : ActD) : stepsC r (l ++ [a]) = if stepsC r l = 0 then actC (runA r l) a else stepsC r l := by
  rw [stepsC_append]
  split
  · simp only [stepsC]; split <;> simp_all
  · rfl
theorem act_same {r : RegD} {a : ActD} (h : actC r a ≠ 0) : doA r a = r := by
  unfold actC at h
  unfold doA
  split
  · next hk => rw [if_pos hk] at h; unfold issueD; rw [if_neg h]
  · next hk => rw [if_neg hk] at h; rw [if_neg h]
/-- A register holds 256 bills at most. -/
theorem upd_len (r : RegD) (n : ByteArray) (f : EntD → EntD) : (r.upd n f).l.length = r.l.length := by simp [RegD.upd]
theorem do_len {r : RegD} {a : ActD} (h : r.l.length ≤ 256) : (doA r a).l.length ≤ 256 := by
  unfold doA
  split
  · unfold issueD
    split
    · next hc =>
      have : r.l.length ≠ 256 := by
        intro e
        unfold issueC at hc
        repeat' split at hc
        all_goals first | cases hc | contradiction
      simp; omega
    · exact h
  · split
    · rw [upd_len]; exact h
    · exact h
theorem run_len : ∀ {l : List ActD} {r : RegD}, r.l.length ≤ 256 → (runA r l).l.length ≤ 256
  | [], _, h => h
  | _ :: l, _, h => run_len (l := l) (do_len h)
theorem runA_append (r : RegD) (l l' : List ActD) : runA r (l ++ l') = runA (runA r l) l' := by simp [runA]
/-- A step of a split: a bill retired, or one issued. -/
def StepOk (a : ActD) : Prop := (a.kind = 0 ∨ a.kind = 5) ∧ a.Ok
theorem good_steps {k : Nat} {r : RegD} (hG : Good k r) {l : List ActD} (h : ∀ a ∈ l, StepOk a) : Good (k + l.length) (stepsR r l) := by
  unfold stepsR
  split
  · exact good_run hG (fun a ha => (h a ha).2) (fun a ha => by have := (h a ha).1; omega)
  · exact hG.mono (Nat.le_add_right _ _)
theorem steps_len {r : RegD} (h : r.l.length ≤ 256) (l : List ActD) : (stepsR r l).l.length ≤ 256 := by
  unfold stepsR
  split
  · exact run_len h
  · exact h
def issA (b : BillD) (holder : ByteArray) : ActD := ⟨0, 0, 0, ⟨#[]⟩, ⟨#[]⟩, holder, b⟩
/-- A bill that comes from others. -/
def nextB (b : BillD) (number : ByteArray) (boxes parents : List ByteArray) (day : Int) : BillD := { b with number := number, boxes := boxes, parents := parents, issued := day }
/-- Parts are just some boxes, each once. -/
def PartP (boxes : List ByteArray) (parts : List (List ByteArray)) : Prop := (∀ p ∈ parts, p ≠ []) ∧ parts.flatten.Perm boxes
open Classical in
noncomputable def splitC (r : RegD) (bill by_ : ByteArray) (parts : List (List ByteArray)) (numbers : List ByteArray) (day : Int) : Int × List ActD := match r.at? bill with
  | none => (4, [])
  | some x => if parts.length < 2 ∨ 64 < parts.length ∨ numbers.length ≠ parts.length ∨ (∃ n ∈ numbers, nameB n = false) ∨ ¬ numbers.Nodup ∨ ¬ PartP x.bill.boxes parts then (1, [])
    else (0, retiA bill by_ day :: (parts.zip numbers).map fun q => issA (nextB x.bill q.2 q.1 [bill] day) by_)
def sameB (a b : BillD) : Prop := b.shipper = a.shipper ∧ b.frm = a.frm ∧ b.to_ = a.to_ ∧ b.clean = a.clean
open Classical in
noncomputable def joinC (r : RegD) (bills : List ByteArray) (by_ number : ByteArray) (day : Int) : Int × List ActD :=
  if bills.length < 2 ∨ 64 < bills.length ∨ ¬ bills.Nodup then (1, [])
  else if ∃ n ∈ bills, r.at? n = none then (4, [])
  else match bills.filterMap r.at? with
    | [] => (1, [])
    | x :: xs => if ∃ y ∈ xs, ¬ sameB x.bill y.bill then (12, [])
      else (0, bills.map (retiA · by_ day) ++ [issA (nextB x.bill number ((x :: xs).flatMap fun y => y.bill.boxes) bills day) by_])
def switchC (r : RegD) (bill by_ number shipper frm : ByteArray) (day : Int) : Int × List ActD := match r.at? bill with
  | none => (4, [])
  | some x => (0, [retiA bill by_ day, issA (nextB { x.bill with shipper := shipper, frm := frm } number x.bill.boxes [bill] day) by_])
/-- What a call answers, and leaves. -/
def callC (r : RegD) (c : Int × List ActD) : Int := if c.1 = 0 then stepsC r c.2 else c.1
def callR (r : RegD) (c : Int × List ActD) : RegD := if c.1 = 0 then stepsR r c.2 else r
theorem nodup_perm : ∀ {a b : List ByteArray}, a.Nodup → (∀ x ∈ a, x ∈ b) → a.length = b.length → a.Perm b
  | [], b, _, _, hl => by
    have : b = [] := List.eq_nil_of_length_eq_zero hl.symm
    rw [this]
  | x :: a, b, hn, hs, hl => by
    obtain ⟨h1, h2⟩ := List.nodup_cons.1 hn
    have hx := hs x List.mem_cons_self
    obtain ⟨s, t, rfl⟩ := List.append_of_mem hx
    have hp : (s ++ x :: t).Perm (x :: (s ++ t)) := List.perm_middle
    refine (List.Perm.cons x (nodup_perm h2 (fun y hy => ?_) ?_)).trans hp.symm
    · have hyb := hp.mem_iff.1 (hs y (List.mem_cons_of_mem _ hy))
      rcases List.mem_cons.1 hyb with rfl | h
      · exact absurd hy h1
      · exact h
    · have := hp.length_eq
      simp only [List.length_cons] at this hl
      omega
/-- By the document's test. -/
theorem part_iff {boxes : List ByteArray} (hb : boxes.Nodup) {parts : List (List ByteArray)} : PartP boxes parts ↔ (∀ p ∈ parts, p ≠ []) ∧ parts.flatten.length = boxes.length ∧ parts.flatten.Nodup ∧ ∀ x ∈ parts.flatten, x ∈ boxes := by
  unfold PartP
  constructor
  · rintro ⟨h1, h2⟩
    exact ⟨h1, h2.length_eq, h2.nodup_iff.2 hb, fun x hx => h2.mem_iff.1 hx⟩
  · rintro ⟨h1, h2, h3, h4⟩
    exact ⟨h1, nodup_perm h3 h4 h2⟩
end Go.Proofs.YtnglkhnfmbnfeaaGreat

/- Rp -/
namespace Go.Proofs.YtnglkhnfmbnfeaaGreat
open Go Go.SK

/-- The entries of a copy that is under way. -/
def doneL (l : List EntD) (go : List (Option GhostE)) : List (ByteArray × Value) := (l.zip go).filterMap fun x => x.2.map fun g => (x.1.bill.number, Value.pointer (some ⟨g.e, 0, none⟩))
theorem doneL_set {g : GhostE} : ∀ {l : List EntD} {go : List (Option GhostE)} {i : Nat} {x : EntD}, l[i]? = some x → go[i]? = some none → (doneL l go ++ [(x.bill.number, Value.pointer (some ⟨g.e, 0, none⟩))]).Perm (doneL l (go.set i (some g)))
  | [], _, _, _, h, _ => by simp at h
  | _ :: _, [], _, _, _, h => by simp at h
  | a :: l, o :: go, 0, x, h, hg => by
    simp at h hg
    subst h hg
    simpa [doneL] using List.perm_append_comm (l₁ := doneL l go) (l₂ := [(a.bill.number, Value.pointer (some ⟨g.e, 0, none⟩))])
  | a :: l, o :: go, i + 1, x, h, hg => by
    have ih := doneL_set (g := g) (l := l) (go := go) (i := i) (x := x) (by simpa using h) (by simpa using hg)
    cases o with
    | none => simpa [doneL] using ih
    | some u => simpa [doneL] using ih
theorem doneL_all : ∀ {l : List EntD} {gs : List GhostE}, l.length = gs.length → doneL l (gs.map some) = mapOf l gs
  | [], [], _ => rfl
  | [], _ :: _, h => by simp at h
  | _ :: _, [], h => by simp at h
  | a :: l, g :: gs, h => by
    have ih := doneL_all (l := l) (gs := gs) (by simpa using h)
    simp only [doneL, mapOf] at ih ⊢
    simp [ih]
theorem doneL_mem {l : List EntD} {go : List (Option GhostE)} {e : ByteArray × Value} (h : e ∈ doneL l go) : ∃ (i : Nat) (x : EntD) (g : GhostE), l[i]? = some x ∧ go[i]? = some (some g) ∧ e.1 = x.bill.number := by
  obtain ⟨⟨x, o⟩, hz, he⟩ := List.mem_filterMap.1 h
  obtain ⟨i, hi⟩ := List.getElem?_of_mem hz
  rw [List.getElem?_zip_eq_some] at hi
  obtain ⟨g, hg, rfl⟩ := Option.map_eq_some_iff.1 he
  dsimp only at hg hi
  exact ⟨i, x, g, hi.1, by rw [hi.2, hg], rfl⟩
theorem mget_none {es : List (ByteArray × Value)} {k : ByteArray} (h : ∀ e ∈ es, k ≠ e.1) : mget es k = none := by
  unfold mget
  rw [Option.map_eq_none_iff, List.find?_eq_none]
  intro e he
  simpa using h e he
theorem all_some : ∀ {go : List (Option GhostE)}, (∀ o ∈ go, o ≠ none) → ∃ gs : List GhostE, go = gs.map some
  | [], _ => ⟨[], rfl⟩
  | none :: _, h => absurd rfl (h none List.mem_cons_self)
  | some g :: go, h => by
    obtain ⟨gs, rfl⟩ := all_some (go := go) fun o ho => h o (List.mem_cons_of_mem _ ho)
    exact ⟨g :: gs, rfl⟩
theorem set_chain {x : EntD} {g : GhostE} (h1 : x.ps.length = 3) (h2 : g.vcs.length = 3) {k : Nat} (hk : k < 3) (v : Value) : (entCells x g).set (10 + k * 3 + 2) v = entCells x { g with vcs := g.vcs.set k v } := by
  obtain ⟨bill, state, ps⟩ := x
  obtain ⟨e, vb, vp, vcs⟩ := g
  dsimp only at h1 h2
  obtain ⟨a, b, c, rfl⟩ := three_cases h1
  obtain ⟨u, y, z, rfl⟩ := three_cases h2
  match k, hk with
  | 0, _ => rfl
  | 1, _ => rfl
  | 2, _ => rfl
theorem set_bill (x : EntD) (g : GhostE) (e : Nat) (ub up : Value) : setMany (entCells x g) 0 (encB x.bill ub up) = entCells x ⟨e, ub, up, g.vcs⟩ := rfl
theorem entCells_one {w : World} {x : EntD} {g : GhostE} (h : EntOk w x g) : ∀ u ∈ entCells x g, u.oneCell' = true := by
  have h1 := own_one h.boxesO
  have h2 := own_one h.parentsO
  have hc := h.chains
  obtain ⟨bill, state, ps⟩ := x
  obtain ⟨e, vb, vp, vcs⟩ := g
  obtain ⟨a, b, c, rfl⟩ := three_cases h.three
  obtain ⟨u, y, z, rfl⟩ := three_cases h.three'
  have c0 := own_one (hc 0 a u rfl rfl)
  have c1 := own_one (hc 1 b y rfl rfl)
  have c2 := own_one (hc 2 c z rfl rfl)
  intro q hq
  simp [entCells, encB, papCells] at hq
  rcases hq with rfl | rfl | rfl | rfl | rfl | rfl | rfl | rfl | rfl | rfl | rfl | rfl | rfl | rfl | rfl | rfl | rfl | rfl | rfl <;> first | rfl | assumption
/-- A copy that is under way. -/
structure CopyI (N : Nat) (w' : World) (r : RegD) (p m : Nat) (go : List (Option GhostE)) (es : List (ByteArray × Value)) : Prop where
  len : r.l.length = go.length
  blk : Blk w' p [.string r.carrier, .map (some m)] 80
  map : Mp w' m es
  perm : es.Perm (doneL r.l go)
  ents : ∀ (i : Nat) (x : EntD) (g : GhostE), r.l[i]? = some x → go[i]? = some (some g) → EntOk w' x g
  fpn : ∀ (i : Nat) (g : GhostE), go[i]? = some (some g) → g.Nd ∧ m ∉ g.fp ∧ m ∉ g.rd ∧ p ∉ g.fp ∧ p ∉ g.rd
  disj : ∀ (i j : Nat) (g g' : GhostE), i ≠ j → go[i]? = some (some g) → go[j]? = some (some g') → ∀ b ∈ g.fp, b ∉ g'.fp
  rdn : ∀ (i j : Nat) (g g' : GhostE), go[i]? = some (some g) → go[j]? = some (some g') → ∀ b ∈ g.fp, b ∉ g'.rd
  new : ∀ (i : Nat) (g : GhostE), go[i]? = some (some g) → ∀ b, b ∈ g.fp ∨ b ∈ g.rd → N ≤ b
  pm : p ≠ m
  newp : N ≤ p ∧ N ≤ m
theorem CopyI.ex {N : Nat} {w' w'' : World} {r : RegD} {p m : Nat} {go : List (Option GhostE)} {es : List (ByteArray × Value)} (h : CopyI N w' r p m go es) (hx : Ex w' w'') : CopyI N w'' r p m go es :=
  ⟨h.len, h.blk.ex hx, h.map.ex hx, h.perm, fun i x g h1 h2 => (h.ents i x g h1 h2).ex hx, h.fpn, h.disj, h.rdn, h.new, h.pm, h.newp⟩
/-- One entry more. -/
theorem CopyI.add {N : Nat} {w' w'' : World} {r : RegD} {p m : Nat} {go : List (Option GhostE)} {es : List (ByteArray × Value)} (h : CopyI N w' r p m go es) {M : Nat} (hM : N ≤ M) (hold : ∀ (i : Nat) (g : GhostE), go[i]? = some (some g) → ∀ b, b ∈ g.fp ∨ b ∈ g.rd → b < M) (hpm : p < M ∧ m < M) {i : Nat} {x : EntD} {g : GhostE} (hi : r.l[i]? = some x) (hg : go[i]? = some none)
    (hx : Ext (· = m) w' w'') (hm : Mp w'' m (es ++ [(x.bill.number, .pointer (some ⟨g.e, 0, none⟩))])) (hE : EntOk w'' x g) (hn : g.Nd) (hnew : ∀ b, b ∈ g.fp ∨ b ∈ g.rd → M ≤ b) (hd : ∀ b ∈ g.fp, b ∉ g.rd) : CopyI N w'' r p m (go.set i (some g)) (es ++ [(x.bill.number, .pointer (some ⟨g.e, 0, none⟩))]) := by
  have hgl : i < go.length := (List.getElem?_eq_some_iff.1 hg).1
  have get : ∀ (j : Nat) (u : GhostE), (go.set i (some g))[j]? = some (some u) → (j = i ∧ u = g) ∨ (j ≠ i ∧ go[j]? = some (some u)) := by
    intro j u hu
    by_cases e : i = j
    · subst e
      rw [List.getElem?_set_self hgl] at hu
      cases hu; exact .inl ⟨rfl, rfl⟩
    · rw [List.getElem?_set_ne e] at hu; exact .inr ⟨fun h => e h.symm, hu⟩
  refine ⟨by rw [h.len, List.length_set], h.blk.ext hx (fun e => h.pm e), hm, (h.perm.append_right _).trans (doneL_set hi hg), ?_, ?_, ?_, ?_, ?_, h.pm, h.newp⟩
  · intro j y u hy hu
    rcases get j u hu with ⟨rfl, rfl⟩ | ⟨_, hu⟩
    · rw [hi] at hy; cases hy; exact hE
    · exact (h.ents j y u hy hu).ext hx (fun b hb e => (h.fpn j u hu).2.1 (e ▸ hb)) (fun b hb e => (h.fpn j u hu).2.2.1 (e ▸ hb))
  · intro j u hu
    rcases get j u hu with ⟨rfl, rfl⟩ | ⟨_, hu⟩
    · exact ⟨hn, fun hb => by have := hnew _ (.inl hb); omega, fun hb => by have := hnew _ (.inr hb); omega, fun hb => by have := hnew _ (.inl hb); omega, fun hb => by have := hnew _ (.inr hb); omega⟩
    · exact h.fpn j u hu
  · intro j k u v hjk hu hv b hb hb'
    rcases get j u hu with ⟨e1, e2⟩ | ⟨_, hu'⟩ <;> rcases get k v hv with ⟨e3, e4⟩ | ⟨_, hv'⟩
    · exact hjk (e1.trans e3.symm)
    · subst e2; have := hnew b (.inl hb); have := hold k v hv' b (.inl hb'); omega
    · subst e4; have := hnew b (.inl hb'); have := hold j u hu' b (.inl hb); omega
    · exact h.disj j k u v hjk hu' hv' b hb hb'
  · intro j k u v hu hv b hb hb'
    rcases get j u hu with ⟨e1, e2⟩ | ⟨_, hu'⟩ <;> rcases get k v hv with ⟨e3, e4⟩ | ⟨_, hv'⟩
    · subst e2 e4; exact hd b hb hb'
    · subst e2; have := hnew b (.inl hb); have := hold k v hv' b (.inr hb'); omega
    · subst e4; have := hnew b (.inr hb'); have := hold j u hu' b (.inl hb); omega
    · exact h.rdn j k u v hu' hv' b hb hb'
  · intro j u hu b hb
    rcases get j u hu with ⟨rfl, rfl⟩ | ⟨_, hu⟩
    · exact Nat.le_trans hM (hnew b hb)
    · exact h.new j u hu b hb
theorem CopyI.rep {N : Nat} {w' : World} {r : RegD} {p m : Nat} {gs : List GhostE} {es : List (ByteArray × Value)} (h : CopyI N w' r p m (gs.map some) es) (hN : r.Nd) : Rep w' p r m gs ∧ ∀ b ∈ foot p m gs, N ≤ b := by
  have hl : r.l.length = gs.length := by rw [h.len, List.length_map]
  have get : ∀ (i : Nat) (g : GhostE), gs[i]? = some g → (gs.map some)[i]? = some (some g) := fun i g hg => by rw [List.getElem?_map, hg]; rfl
  refine ⟨⟨h.blk, ⟨es, h.map, by rw [← doneL_all hl]; exact h.perm⟩, hN, hl, fun i x g hx hg => h.ents i x g hx (get i g hg), fun i g hg => h.fpn i g (get i g hg), fun i j g g' hij hg hg' => h.disj i j g g' hij (get i g hg) (get j g' hg'), fun i j g g' hg hg' => h.rdn i j g g' (get i g hg) (get j g' hg'), h.pm⟩, ?_⟩
  intro b hb
  rcases foot_mem.1 hb with rfl | rfl | ⟨i, g, hg, hb⟩
  · exact h.newp.1
  · exact h.newp.2
  · exact h.new i g (get i g hg) b hb
section
variable {w : World} {p : Nat} {r : RegD} {m : Nat} {gs : List GhostE}
set_option maxHeartbeats 4000000 in
theorem reg_Copy (hR : Rep w p r m gs) (hs : r.Small) : Ret Tryz.prog 94 [.pointer (some ⟨p, 0, none⟩)] w fun v w' =>
    (∃ p' m' gs', v = .pointer (some ⟨p', 0, none⟩) ∧ Rep w' p' r m' gs' ∧ ∀ b ∈ foot p' m' gs', w.heap.size ≤ b) ∧ Ex w w' := by
  obtain ⟨es, hmp, hpm⟩ := hR.map
  have hkeys := hR.keys
  have hnes : (es.map (·.1)).Nodup := (hpm.map _).nodup_iff.2 hkeys
  refine ret_of Tryz.func94 Tryz.ntmps94 rfl rfl rfl ?_
  (repeat (first | refine lw_pure hT rfl ?_ | refine lw_nil ?_ | refine cw_seq ?_ | refine cw_region ?_ | refine qw_then ?_))
  refine lw_load hT rfl rfl (v := .string r.carrier) (hR.blk.cell 0) ?_
  skip
  refine lw_call hT rfl rfl (reg_New w r.carrier) ?_
  rintro _ w1 ⟨p', m', rfl, hR', hp', hm', hx1⟩
  (repeat (first | refine lw_pure hT rfl ?_ | refine lw_nil ?_ | refine cw_seq ?_ | refine cw_region ?_ | refine qw_then ?_))
  refine lw_load hT rfl rfl (v := .map (some m)) ((hR.blk.ex hx1).cell 1) ?_
  skip
  refine lw_range mp78 rfl (hmp.ex hx1) ?_
  intro bi w2 hbi hI2 hx2 hs2
  obtain ⟨es0, hmp0, hpm0⟩ := hR'.map
  have hes0 : es0 = [] := List.Perm.eq_nil (by simpa [mapOf] using hpm0)
  subst hes0
  have hml' := hmp0.lt
  have hpl' := hR'.blk.lt
  have hl1 := hx1.size
  have hl2 := hx2.size
  have hl12 := hmp.lt
  have hI0 : CopyI w.heap.size w2 r p' m' (r.l.map fun _ => none) [] := by
    refine ⟨by simp, hR'.blk.ex hx2, hmp0.ex hx2, ?_, ?_, ?_, ?_, ?_, ?_, hR'.pm, ⟨hp', hm'⟩⟩
    · have : doneL r.l (r.l.map fun _ => none) = [] := by
        unfold doneL
        rw [List.filterMap_eq_nil_iff]
        rintro ⟨x, o⟩ hz
        have := List.of_mem_zip hz
        simp at this
        simp [this.2]
      rw [this]
    all_goals
      intro i
      intros
      simp_all
  (repeat (first | refine lw_nil ?_ | refine qw_then ?_ | refine cw_block ?_))
  refine cw_loop (fun _ : List Nat => [(3, .pointer (some ⟨p', 0, none⟩)), (17, .pointer (some ⟨bi, 0, none⟩))])
    (fun seen w' => Ex w w' ∧ w2.heap.size ≤ w'.heap.size ∧ Itr w' bi m es.length seen ∧ (∀ j ∈ seen, j < es.length) ∧ ∃ go es', CopyI w.heap.size w' r p' m' go es' ∧ (∀ (i : Nat) (x : EntD), r.l[i]? = some x → (go[i]? = some none ↔ ¬ ∃ j ∈ seen, ∃ e, es[j]? = some e ∧ e.1 = x.bill.number)) ∧
      (∀ (i : Nat) (g : GhostE), go[i]? = some (some g) → bi ∉ g.fp ∧ bi ∉ g.rd)) (fun seen => left es.length seen) [] (by repeat (first | exact trivial | refine ⟨rfl, ?_⟩))
    ⟨hx1.trans hx2, Nat.le_refl _, hI2, by simp, _, [], hI0, ?_, ?_⟩ ?_
  · intro i x hi; simp [hi]
  · intro i g hg; simp at hg
  rintro seen w3 ⟨hx3, hl3, hI3, hlt, go, es', hC, hsn, hbif⟩
  (repeat (first | refine cw_seq ?_ | refine cw_region ?_))
  refine lw_next rfl (hmp.ex hx3) hI3 hlt (fun hall => ?_) ?_
  · (repeat (first | refine lw_pure hT rfl ?_ | refine lw_nil ?_ | refine cw_seq ?_ | refine cw_region ?_ | refine qw_then ?_ | refine cw_ret ?_ | refine cw_exit ?_ | refine qw_block_exit ?_ | refine qw_then_exit ?_ | (refine cw_cond_f rfl ?_ ?_; focus (first | with_reducible rfl | with_reducible exact Bool.not_false | with_reducible exact Bool.not_true))))
    have hne : ∀ o ∈ go, o ≠ none := by
      intro o ho e
      subst e
      obtain ⟨i, hi⟩ := List.getElem?_of_mem ho
      have hil : i < r.l.length := by rw [hC.len]; exact (List.getElem?_eq_some_iff.1 hi).1
      refine (hsn i r.l[i] (List.getElem?_eq_getElem hil)).1 hi ?_
      have hig : i < gs.length := hR.len ▸ hil
      have hin : (r.l[i].bill.number, Value.pointer (some ⟨gs[i].e, 0, none⟩)) ∈ mapOf r.l gs := by
        refine List.mem_map.2 ⟨(r.l[i], gs[i]), List.mem_of_getElem? (i := i) ?_, rfl⟩
        rw [List.getElem?_zip_eq_some]; exact ⟨List.getElem?_eq_getElem hil, List.getElem?_eq_getElem hig⟩
      obtain ⟨j, hj⟩ := List.getElem?_of_mem (hpm.mem_iff.2 hin)
      exact ⟨j, hall j (List.getElem?_eq_some_iff.1 hj).1, _, hj, rfl⟩
    obtain ⟨gs', rfl⟩ := all_some hne
    obtain ⟨h1, h2⟩ := hC.rep hR.nd
    exact qw_ret rfl ⟨⟨p', m', gs', rfl, h1, h2⟩, hx3⟩
  · intro j e w4 hj hjs hI4 hx4 hs4 hent
    obtain ⟨i, hi⟩ := List.getElem?_of_mem (hpm.mem_iff.1 (List.mem_of_getElem? hj))
    obtain ⟨y, g, h1, h2, rfl⟩ := mapOf_get hi
    have hjl := (List.getElem?_eq_some_iff.1 hj).1
    have hgo : go[i]? = some none := by
      refine (hsn i y h1).2 ?_
      rintro ⟨j', hj', e', he', hk⟩
      have hne : j' ≠ j := fun h => hjs (h ▸ hj')
      have hj'l := (List.getElem?_eq_some_iff.1 he').1
      have a1 : (es.map (·.1))[j']? = some y.bill.number := by rw [List.getElem?_map, he']; simp [hk]
      have a2 : (es.map (·.1))[j]? = some y.bill.number := by rw [List.getElem?_map, hj]; rfl
      exact hne ((List.getElem?_inj (by simpa using hj'l) hnes).1 (a1.trans a2.symm))
    have hE := hR.ents i y g h1 h2
    have hx04 : Ex w w4 := hx3.up_new hx4 (fun i hi => by omega)
    have hC4 : CopyI w.heap.size w4 r p' m' go es' := by
      refine ⟨hC.len, hC.blk.ext hx4 (by omega), hC.map.ext hx4 (by omega), hC.perm, fun i x g hx hg => (hC.ents i x g hx hg).ext hx4 (fun b hb e => (hbif i g hg).1 (e ▸ hb)) (fun b hb e => (hbif i g hg).2 (e ▸ hb)), hC.fpn, hC.disj, hC.rdn, hC.new, hC.pm, hC.newp⟩
    have hE4 := hE.ex hx04
    have h3 := hE.three
    have h3' := hE.three'
    have hsm := hs y (List.mem_of_getElem? h1)
    have hl4 := hx04.size
    (repeat (first | refine lw_pure hT rfl ?_ | refine lw_nil ?_ | refine cw_seq ?_ | refine cw_region ?_ | refine qw_then ?_ | refine cw_skip ?_ | refine cw_block ?_ | (refine cw_cond_t rfl ?_ ?_; focus (first | with_reducible rfl | with_reducible exact Bool.not_false | with_reducible exact Bool.not_true))))
    refine lw_entry rfl hent ?_
    (repeat (first | refine lw_pure hT rfl ?_ | refine lw_nil ?_ | refine cw_seq ?_ | refine cw_region ?_ | refine qw_then ?_))
    refine lw_load_agg hT rfl rfl (by rw [entCells_len h3 h3']; rfl) (vs := entCells y g) (by have := hE4.blk.rd 0 19; rw [List.drop_zero, List.take_of_length_le (Nat.le_of_eq (entCells_len h3 h3'))] at this; exact this) ?_
    skip
    refine lw_alloc z87 ?_
    intro bd w5 hbbd hbd hx5 hs5
    skip
    refine lw_store_agg hT rfl rfl rfl (by rw [entCells_len h3 h3']; rfl) (entCells_one hE4) hbd (by rw [entCells_len h3 h3']; decide) ?_
    intro w6 hbd6 hx6 hs6
    replace hbd6 : Blk w6 bd (entCells y g) 87 := by
      have : ∀ (a : List Value), a.length = 19 → ∀ (c : List Value), c.length = 19 → setMany a 0 c = c := by
        intro a ha c hc
        match a, ha, c, hc with
        | [_, _, _, _, _, _, _, _, _, _, _, _, _, _, _, _, _, _, _], _, [_, _, _, _, _, _, _, _, _, _, _, _, _, _, _, _, _, _, _], _ => rfl
      rwa [this _ rfl _ (entCells_len h3 h3')] at hbd6
    have hx46 : Ex w4 w6 := hx5.up_new hx6 (fun i h => by omega)
    (repeat (first | refine lw_pure hT rfl ?_ | refine lw_nil ?_ | refine cw_seq ?_ | refine cw_region ?_ | refine qw_then ?_))
    refine lw_load_agg hT rfl rfl rfl (vs := encB y.bill g.vb g.vp) ((hE4.blk.ex hx46).rd 0 9) ?_
    skip
    refine lw_call hT rfl rfl (reg_own w6 (hE4.boxes.ex hx46) (hE4.parents.ex hx46) hsm.2.1 hsm.2.2) ?_
    rintro _ w7 ⟨ub, up, rfl, hub, hup, hx7⟩
    (repeat (refine lw_pure hT rfl ?_))
    refine lw_store_agg hT rfl rfl rfl rfl (encB_one (A := fun _ => True) (w := w) (own_one hub) (own_one hup)) (hbd6.ex hx7) (by rw [entCells_len h3 h3']; show (9 : Nat) ≤ 19; decide) ?_
    intro w8 hbd8 hx8 hs8
    rw [set_bill y g bd ub up] at hbd8
    have hl46 := hx46.size
    have hl7 := hx7.size
    have hx48 : Ex w4 w8 := (hx46.trans hx7).up_new hx8 (fun i h => by omega)
    have hbdl := hbd6.lt
    have hub8 := own_ext hub hx8 (fun k hk e => by have := own_base hub hk; omega)
    have hup8 := own_ext hup hx8 (fun k hk e => by have := own_base hup hk; omega)
    (repeat (first | refine lw_pure hT rfl ?_ | refine lw_nil ?_ | refine cw_seq ?_ | refine cw_region ?_ | refine qw_then ?_ | refine cw_block ?_))
    refine cw_loop (fun k : Nat => [(3, .pointer (some ⟨p', 0, none⟩)), (4, .string y.bill.number), (6, .pointer (some ⟨bd, 0, none⟩)), (17, .pointer (some ⟨bi, 0, none⟩)), (32, .int .i64 (k : Nat))])
      (fun k w' => k ≤ 3 ∧ Ex w4 w' ∧ w8.heap.size ≤ w'.heap.size ∧ ∃ us, us.length = 3 ∧ Blk w' bd (entCells y ⟨bd, ub, up, us⟩) 87 ∧ w'.ownsRow w6.heap.size 9 1 ub y.bill.boxes.length (y.bill.boxes.map Value.string) ∧
        w'.ownsRow w6.heap.size 9 1 up y.bill.parents.length (y.bill.parents.map Value.string) ∧ (∀ j, k ≤ j → us[j]? = g.vcs[j]?) ∧
        (∀ (j : Nat) (q : PapD) (v : Value), j < k → y.ps[j]? = some q → us[j]? = some v → w'.ownsRow w8.heap.size 139 4 v q.chain.length (q.chain.map encE).flatten) ∧
        (∀ (j j' : Nat) (v v' : Value) (b : Nat), j < k → j' < k → j ≠ j' → us[j]? = some v → us[j']? = some v' → v.ownBlock = some b → v'.ownBlock ≠ some b))
      (fun k => 3 - k) 0 (by repeat (first | exact trivial | refine ⟨rfl, ?_⟩)) ⟨Nat.zero_le _, hx48, Nat.le_refl _, g.vcs, h3', hbd8, hub8, hup8, fun _ _ => rfl, fun j _ _ h => by omega, fun j _ _ _ _ h => by omega⟩ ?_
    rintro k w9 ⟨hk, hx49, hl9, us, hus, hbd9, hub9, hup9, hold, hnew, hnd⟩
    (repeat (first | refine lw_pure hT rfl ?_ | refine lw_nil ?_ | refine cw_seq ?_ | refine cw_region ?_ | refine qw_then ?_))
    refine cw_cond rfl (fun e => ?_) (fun e => ?_)
    · have hlt : k < 3 := by have := of_decide_eq_true e; omega
      obtain ⟨q, hq⟩ : ∃ q, y.ps[k]? = some q := ⟨_, List.getElem?_eq_getElem (by rw [h3]; exact hlt)⟩
      obtain ⟨vc, hvc⟩ : ∃ vc, g.vcs[k]? = some vc := ⟨_, List.getElem?_eq_getElem (by rw [h3']; exact hlt)⟩
      have husk : us[k]? = some vc := (hold k (Nat.le_refl _)).trans hvc
      have hch := (hE4.chains k q vc hq hvc)
      have hc : w9.cell? ⟨bd, 0 + 10 + k * 3 + 2, none⟩ = some vc := by
        rw [hbd9.cell]
        obtain ⟨q', vc', hq', hvc', _, _, hcc⟩ := entCells_paper (x := y) (g := ⟨bd, ub, up, us⟩) h3 hus hlt
        rw [show 0 + 10 + k * 3 + 2 = 10 + k * 3 + 2 from by omega, hcc]
        rw [← husk]; exact hvc'.symm
      have hcl := (hsm.1 q (List.mem_of_getElem? hq))
      (repeat (first | refine lw_pure hT rfl ?_ | refine lw_nil ?_ | refine cw_seq ?_ | refine cw_region ?_ | refine qw_then ?_ | refine cw_skip ?_ | refine cw_block ?_))
      refine lw_index_arr hT rfl rfl rfl k rfl hlt ?_
      (repeat (refine lw_pure hT rfl ?_))
      refine lw_load hT rfl rfl hc ?_
      skip
      refine lw_call hT rfl rfl (clone_end w9 ((hch.sl (A := fun _ => True) fun _ _ => trivial).ex hx49) hcl) ?_
      rintro u w10 ⟨hu, hx10⟩
      (repeat (refine lw_pure hT rfl ?_))
      refine lw_index_arr hT rfl rfl rfl k rfl hlt ?_
      (repeat (refine lw_pure hT rfl ?_))
      refine lw_store (size := 1) hT rfl rfl rfl (own_one hu) (hbd9.ex hx10) (show 0 + 10 + k * 3 + 2 < _ by rw [entCells_len h3 hus]; omega) ?_
      intro w11 hbd11 hx11 hs11
      have hl10 := hx10.size
      have hl49 := hx49.size
      have hbd9l := hbd9.lt
      rw [show 0 + 10 + k * 3 + 2 = 10 + k * 3 + 2 from by omega, set_chain h3 hus hlt] at hbd11
      have keep : ∀ {base e size n : Nat} {v : Value} {xs : List Value}, w9.ownsRow base e size v n xs → bd < base → w11.ownsRow base e size v n xs := fun h hb => own_ext (own_ex h hx10) hx11 (fun k hk e => by have := own_base h hk; omega)
      have hu11 := own_ext hu hx11 (fun k hk e => by have := own_base hu hk; omega)
      (repeat (first | (refine lw_add rfl rfl ?_ ?_ ?_; iterate 2 omega) | refine lw_pure hT rfl ?_ | refine lw_nil ?_ | refine cw_region ?_ | refine qw_then ?_ | refine qw_block ?_))
      refine qw_round (k + 1) (by repeat (first | exact trivial | refine ⟨rfl, ?_⟩)) ⟨hlt, (hx49.trans hx10).up_new hx11 (fun i h => by omega), by have := hx11.size; omega, us.set k u, by simp [hus], hbd11, keep hub9 (by omega), keep hup9 (by omega), fun j hj => ?_, fun j q' v hj hq' hv => ?_, fun j j' v v' b hj hj' hjj hv hv' hb hb' => ?_⟩ (by omega)
      · rw [List.getElem?_set_ne (by omega)]; exact hold j (by omega)
      · by_cases ej : k = j
        · subst ej
          rw [List.getElem?_set_self (by rw [hus]; exact hlt)] at hv
          cases hv
          rw [hq] at hq'; cases hq'
          exact own_mono hu11 hl9
        · rw [List.getElem?_set_ne ej] at hv
          exact keep (hnew j q' v (by omega) hq' hv) (by omega)
      · have old : ∀ (j : Nat) (v : Value) (b : Nat), j < k → us[j]? = some v → v.ownBlock = some b → b < w9.heap.size := by
          intro j v b hj hv hb
          obtain ⟨q', hq'⟩ : ∃ q, y.ps[j]? = some q := ⟨_, List.getElem?_eq_getElem (by rw [h3]; omega)⟩
          exact (own_base (hnew j q' v hj hq' hv) hb).2
        by_cases ej : k = j
        · subst ej
          rw [List.getElem?_set_self (by rw [hus]; exact hlt)] at hv
          rw [List.getElem?_set_ne (by omega)] at hv'
          cases hv
          have := own_base hu hb
          have := old j' v' b (by omega) hv' hb'
          omega
        · rw [List.getElem?_set_ne ej] at hv
          by_cases ej' : k = j'
          · subst ej'
            rw [List.getElem?_set_self (by rw [hus]; exact hlt)] at hv'
            cases hv'
            have := own_base hu hb'
            have := old j v b (by omega) hv hb
            omega
          · rw [List.getElem?_set_ne ej'] at hv'
            exact hnd j j' v v' b (by omega) (by omega) hjj hv hv' hb hb'
    · have ek : k = 3 := by have := of_decide_eq_false e; omega
      subst ek
      have hC9 := hC4.ex hx49
      have hE9 : EntOk w9 y ⟨bd, ub, up, us⟩ := by
        refine ⟨hbd9, own_mono hub9 (Nat.zero_le _), own_mono hup9 (Nat.zero_le _), h3, hus, fun j q vc hq hvc => ?_⟩
        have hj : j < 3 := by have := (List.getElem?_eq_some_iff.1 hvc).1; rw [show (⟨bd, ub, up, us⟩ : GhostE).vcs = us from rfl, hus] at this; exact this
        exact own_mono (hnew j q vc hj hq hvc) (Nat.zero_le _)
      have hub78 : ∀ b, ub.ownBlock = some b → w6.heap.size ≤ b ∧ b < w7.heap.size := fun b hb => own_base hub hb
      have hup78 : ∀ b, up.ownBlock = some b → w6.heap.size ≤ b ∧ b < w7.heap.size := fun b hb => own_base hup hb
      have hvb : ∀ (j : Nat) (v : Value) (b : Nat), us[j]? = some v → v.ownBlock = some b → w8.heap.size ≤ b ∧ b < w9.heap.size := by
        intro j v b hv hb
        have hj : j < 3 := by have := (List.getElem?_eq_some_iff.1 hv).1; rw [hus] at this; exact this
        obtain ⟨q', hq'⟩ : ∃ q, y.ps[j]? = some q := ⟨_, List.getElem?_eq_getElem (by rw [h3]; omega)⟩
        exact own_base (hnew j q' v hj hq' hv) hb
      have hNd : (⟨bd, ub, up, us⟩ : GhostE).Nd := by
        refine ⟨fun j v hv hb => ?_, fun j j' v v' b hjj hv hv' hb hb' => ?_⟩
        · have := hvb j v bd hv hb; omega
        · have hj : j < 3 := by have := (List.getElem?_eq_some_iff.1 hv).1; rw [show (⟨bd, ub, up, us⟩ : GhostE).vcs = us from rfl, hus] at this; exact this
          have hj' : j' < 3 := by have := (List.getElem?_eq_some_iff.1 hv').1; rw [show (⟨bd, ub, up, us⟩ : GhostE).vcs = us from rfl, hus] at this; exact this
          exact hnd j j' v v' b hj hj' hjj hv hv' hb hb'
      have hfp : ∀ b, b ∈ (⟨bd, ub, up, us⟩ : GhostE).fp → b = bd ∨ w8.heap.size ≤ b := by
        intro b hb
        rcases GhostE.fp_mem.1 hb with h | ⟨j, v, hv, hb⟩
        · exact .inl h
        · exact .inr (hvb j v b hv hb).1
      have hrd : ∀ b, b ∈ (⟨bd, ub, up, us⟩ : GhostE).rd → w6.heap.size ≤ b ∧ b < w7.heap.size := by
        intro b hb
        rcases GhostE.rd_mem.1 hb with hb | hb
        · exact hub78 b hb
        · exact hup78 b hb
      have hl5 := hx5.size
      have hold4 : ∀ (i : Nat) (g : GhostE), go[i]? = some (some g) → ∀ b, b ∈ g.fp ∨ b ∈ g.rd → b < w4.heap.size := by
        intro i' g' hg' b hb
        have hil : i' < r.l.length := by rw [hC.len]; exact (List.getElem?_eq_some_iff.1 hg').1
        exact (hC4.ents i' _ g' (List.getElem?_eq_getElem hil) hg').lt hb
      have hpl4 := hC4.blk.lt
      have hml4 := hC4.map.lt
      have hnone : mget es' y.bill.number = none := by
        refine mget_none fun e' he' hk => ?_
        obtain ⟨i', x', g', hx', hg', hk'⟩ := doneL_mem (hC.perm.mem_iff.1 he')
        have := hR.nd i i' y x' h1 hx' (hk.trans hk')
        subst this
        rw [hgo] at hg'; cases hg'
      (repeat (first | refine lw_pure hT rfl ?_ | refine cw_region ?_ | refine qw_then ?_ | refine cw_exit ?_ | refine qw_block_exit ?_ | refine qw_then_exit ?_))
      refine lw_load hT rfl rfl (v := .map (some m')) (hC9.blk.cell 1) ?_
      (repeat (refine lw_pure hT rfl ?_))
      refine lw_mapUpdate mp78 rfl rfl rfl hC9.map hnone ?_
      intro w10 hmp10 hx10 hs10
      have hE10 : EntOk w10 y ⟨bd, ub, up, us⟩ := hE9.ext hx10 (fun b hb e => by rcases hfp b hb with h | h <;> omega) (fun b hb e => by have := hrd b hb; omega)
      have hC10 := hC9.add (M := w4.heap.size) hl4 hold4 ⟨hpl4, hml4⟩ h1 hgo hx10 hmp10 hE10 hNd (fun b hb => by
        rcases hb with hb | hb
        · rcases hfp b hb with h | h <;> omega
        · have := hrd b hb; omega) (fun b hb hb' => by
        have := hrd b hb'
        rcases hfp b hb with h | h <;> omega)
      (repeat (first | refine lw_nil ?_ | refine qw_block ?_))
      have hl49 := hx49.size
      refine qw_round (seen ++ [j]) (by repeat (first | exact trivial | refine ⟨rfl, ?_⟩)) ⟨(hx04.trans hx49).up_new hx10 (fun i h => by omega), by have := hx10.size; omega, ((hI4.ex hx49).ext hx10 (by omega)), ?_, go.set i (some ⟨bd, ub, up, us⟩), _, hC10, ?_, ?_⟩ (left_lt hjl hjs)
      · intro k hk; simp at hk; exact hk.elim (fun hk => hlt k hk) (fun e => by subst e; exact hjl)
      · intro i' x' hx'
        by_cases ei : i = i'
        · subst ei
          rw [h1] at hx'; cases hx'
          rw [List.getElem?_set_self (by rw [← hC.len]; exact (List.getElem?_eq_some_iff.1 h1).1)]
          constructor
          · intro h; cases h
          · intro h; exact absurd ⟨j, by simp, _, hj, rfl⟩ h
        · rw [List.getElem?_set_ne ei, hsn i' x' hx']
          constructor
          · rintro h ⟨j', hj', e', he', hk⟩
            simp at hj'
            rcases hj' with hj' | rfl
            · exact h ⟨j', hj', e', he', hk⟩
            · rw [hj] at he'; cases he'
              exact ei (hR.nd i i' y x' h1 hx' hk)
          · rintro h ⟨j', hj', e', he', hk⟩
            exact h ⟨j', by simp [hj'], e', he', hk⟩
      · intro i' g' hg'
        by_cases ei : i = i'
        · subst ei
          rw [List.getElem?_set_self (by rw [← hC.len]; exact (List.getElem?_eq_some_iff.1 h1).1)] at hg'
          cases hg'
          exact ⟨fun h => by rcases hfp _ h with h | h <;> omega, fun h => by have := hrd _ h; omega⟩
        · rw [List.getElem?_set_ne ei] at hg'
          exact hbif i' g' hg'
end
end Go.Proofs.YtnglkhnfmbnfeaaGreat

/- Qb -/
namespace Go.Proofs.YtnglkhnfmbnfeaaGreat
open Go Go.SK

theorem stepsC_at {r : RegD} {l : List ActD} {i : Nat} (hi : i < l.length) (h0 : stepsC r (l.take i) = 0) (h : actC (runA r (l.take i)) l[i] ≠ 0) : stepsC r l = actC (runA r (l.take i)) l[i] := by
  have e : l = l.take i ++ l[i] :: l.drop (i + 1) := by rw [List.getElem_cons_drop]; exact (List.take_append_drop i l).symm
  have := stepsC_append r (l.take i) (l[i] :: l.drop (i + 1))
  rw [← e, if_pos h0] at this
  rw [this]
  simp only [stepsC]
  rw [if_neg h]
theorem stepsC_take {r : RegD} {l : List ActD} {i : Nat} (hi : i < l.length) (h0 : stepsC r (l.take i) = 0) (h : actC (runA r (l.take i)) l[i] = 0) : stepsC r (l.take (i + 1)) = 0 := by
  rw [List.take_succ_eq_append_getElem hi, stepsC_snoc, if_pos h0]; exact h
/-- A step's value: a closure over a bill's number, who retires it and the day; or over a new bill and its holder. -/
structure RetAt (A : Nat → Prop) (w : World) (v : Value) (a : ActD) : Prop where
  is : ∃ b1 b2 b3, v = .func (.func 92) #[] #[.pointer (some ⟨b1, 0, none⟩), .pointer (some ⟨b2, 0, none⟩), .pointer (some ⟨b3, 0, none⟩)] ∧ A b1 ∧ A b2 ∧ A b3 ∧ Blk w b1 [.string a.bill] 9 ∧ Blk w b2 [.string a.by_] 9 ∧ Blk w b3 [.int .i64 a.day] 3
  kind : a.kind = 5
structure IssAt (A : Nat → Prop) (w : World) (v : Value) (a : ActD) : Prop where
  is : ∃ b1 b2 vb vp, v = .func (.func 93) #[] #[.pointer (some ⟨b1, 0, none⟩), .pointer (some ⟨b2, 0, none⟩)] ∧ A b1 ∧ A b2 ∧ Blk w b1 (encB a.b vb vp) 33 ∧ SlS A w vb a.b.boxes ∧ SlS A w vp a.b.parents ∧ Blk w b2 [.string a.to_] 9
  kind : a.kind = 0
def StepAt (A : Nat → Prop) (w : World) (v : Value) (a : ActD) : Prop := RetAt A w v a ∨ IssAt A w v a
theorem StepAt.ext {A F : Nat → Prop} {w w' : World} {v : Value} {a : ActD} (h : StepAt A w v a) (hx : Ext F w w') (hn : ∀ b, A b → ¬ F b) : StepAt A w' v a := by
  rcases h with h | h
  · obtain ⟨b1, b2, b3, h1, h2, h3, h4, h5, h6, h7⟩ := h.is
    exact .inl ⟨⟨b1, b2, b3, h1, h2, h3, h4, h5.ext hx (hn _ h2), h6.ext hx (hn _ h3), h7.ext hx (hn _ h4)⟩, h.kind⟩
  · obtain ⟨b1, b2, vb, vp, h1, h2, h3, h4, h5, h6, h7⟩ := h.is
    exact .inr ⟨⟨b1, b2, vb, vp, h1, h2, h3, h4.ext hx (hn _ h2), h5.ext hx hn, h6.ext hx hn, h7.ext hx (hn _ h3)⟩, h.kind⟩
theorem StepAt.ex {A : Nat → Prop} {w w' : World} {v : Value} {a : ActD} (h : StepAt A w v a) (hx : Ex w w') : StepAt A w' v a := h.ext hx fun _ _ f => f
/-- A step that is called. -/
theorem step_call {A : Nat → Prop} {w : World} {v : Value} {a : ActD} (h : StepAt A w v a) {p m : Nat} {r : RegD} {gs : List GhostE} (hR : Rep w p r m gs) (hN : r.Nd) (hok : a.Ok) :
    ∃ f c, v = .func (.func f) ⟨[]⟩ ⟨c⟩ ∧ memN T.fns f = true ∧ Ret Tryz.prog f ([] ++ [.pointer (some ⟨p, 0, none⟩)] ++ c) w fun u w' => u = .int .i64 (actC r a) ∧ Mut w p m gs (doA r a) w' := by
  rcases h with h | h
  · obtain ⟨b1, b2, b3, rfl, h2, h3, h4, h5, h6, h7⟩ := h.is
    refine ⟨_, [_, _, _], rfl, rfl, ?_⟩
    refine ret_of Tryz.func92 Tryz.ntmps92 rfl rfl rfl ?_
    (repeat (first | refine lw_pure hT rfl ?_ | refine lw_nil ?_ | refine cw_seq ?_ | refine cw_region ?_ | refine qw_then ?_))
    refine lw_load hT rfl rfl (v := .string a.bill) (h5.cell 0) ?_
    skip
    refine lw_load hT rfl rfl (v := .string a.by_) (h6.cell 0) ?_
    skip
    refine lw_load hT rfl rfl (v := .int .i64 a.day) (h7.cell 0) ?_
    skip
    refine lw_call hT rfl rfl (reg_Retire hR hN a h.kind) ?_
    rintro _ w1 ⟨rfl, hm⟩
    (repeat (first | refine lw_pure hT rfl ?_ | refine lw_nil ?_ | refine qw_then ?_ | refine cw_ret ?_))
    exact qw_ret rfl ⟨rfl, hm⟩
  · obtain ⟨b1, b2, vb, vp, rfl, h2, h3, h4, h5, h6, h7⟩ := h.is
    refine ⟨_, [_, _], rfl, rfl, ?_⟩
    have hk := h.kind
    refine ret_of Tryz.func93 Tryz.ntmps93 rfl rfl rfl ?_
    (repeat (first | refine lw_pure hT rfl ?_ | refine lw_nil ?_ | refine cw_seq ?_ | refine cw_region ?_ | refine qw_then ?_))
    refine lw_load_agg hT rfl rfl rfl (vs := encB a.b vb vp) (h4.rd 0 9) ?_
    skip
    refine lw_load hT rfl rfl (v := .string a.to_) (h7.cell 0) ?_
    skip
    refine lw_call hT rfl rfl (reg_Issue hR h5 h6 hok.b a.to_ hok.to_) ?_
    rintro _ w1 ⟨rfl, hm⟩
    (repeat (first | refine lw_pure hT rfl ?_ | refine lw_nil ?_ | refine qw_then ?_ | refine cw_ret ?_))
    have e1 : actC r a = issueC r a.b a.to_ := by unfold actC; rw [if_pos hk]
    have e2 : doA r a = issueD r a.b a.to_ := by unfold doA; rw [if_pos hk]
    exact qw_ret rfl ⟨by rw [e1]; rfl, by rw [e2]; exact hm⟩
/-- A slice of steps. -/
structure StepsAt (A : Nat → Prop) (w : World) (v : Value) (l : List ActD) : Prop where
  is : ∃ b o cap, v = .slice (some ⟨b, o, none⟩) l.length cap ∧ A b ∧ ∀ i (hi : i < l.length), ∃ fv, Rd w b (o + i * 1) [fv] ∧ StepAt A w fv l[i]
  small : l.length ≤ 65
theorem StepsAt.ext {A F : Nat → Prop} {w w' : World} {v : Value} {l : List ActD} (h : StepsAt A w v l) (hx : Ext F w w') (hn : ∀ b, A b → ¬ F b) : StepsAt A w' v l := by
  obtain ⟨b, o, cap, h1, h2, h3⟩ := h.is
  refine ⟨⟨b, o, cap, h1, h2, fun i hi => ?_⟩, h.small⟩
  obtain ⟨fv, h4, h5⟩ := h3 i hi
  exact ⟨fv, h4.ext hx (hn b h2), h5.ext hx hn⟩
set_option maxHeartbeats 2000000 in
theorem spl_do {A : Nat → Prop} {w : World} {p m k : Nat} {r : RegD} {gs : List GhostE} {v : Value} {l : List ActD} (hR : Rep w p r m gs) (hG : Good k r) (hk : k + l.length ≤ 1000000) (hS : StepsAt A w v l) (hok : ∀ a ∈ l, StepOk a) (hdis : ∀ b, A b → b ∉ foot p m gs ∧ b < w.heap.size) :
    Ret Tryz.prog 47 [.pointer (some ⟨p, 0, none⟩), v] w fun u w' => u = .int .i64 (stepsC r l) ∧ Mut w p m gs (stepsR r l) w' := by
  obtain ⟨b, o, cap, rfl, hAb, hrow⟩ := hS.is
  have hsm := hS.small
  have good : ∀ i, i ≤ l.length → Good (k + i) (runA r (l.take i)) := fun i hi => by
    have := good_run (l := l.take i) hG (fun a ha => (hok a (List.mem_of_mem_take ha)).2) (fun a ha => by have := (hok a (List.mem_of_mem_take ha)).1; omega)
    have e : (l.take i).length = i := by simp; omega
    rw [e] at this
    exact this
  refine ret_of Tryz.func47 Tryz.ntmps47 rfl rfl rfl ?_
  (repeat (first | refine lw_pure hT rfl ?_ | refine lw_nil ?_ | refine cw_seq ?_ | refine cw_region ?_ | refine qw_then ?_))
  refine lw_call hT rfl rfl (reg_Copy hR (hG.small (by omega))) ?_
  rintro _ w1 ⟨⟨pc, mc, gc, rfl, hC, hCn⟩, hx1⟩
  (repeat (first | refine lw_pure hT rfl ?_ | refine lw_nil ?_ | refine cw_seq ?_ | refine cw_region ?_ | refine qw_then ?_ | refine cw_block ?_))
  refine cw_loop (fun i : Nat => [(0, pB p), (1, .slice (some ⟨b, o, none⟩) l.length cap), (5, pB pc), (13, .slice (some ⟨b, o, none⟩) l.length cap), (14, .int .i64 (l.length : Nat)), (15, .int .i64 (i : Nat))])
    (fun i w' => i ≤ l.length ∧ Ex w w' ∧ stepsC r (l.take i) = 0 ∧ ∃ gc', Rep w' pc (runA r (l.take i)) mc gc' ∧ ∀ b ∈ foot pc mc gc', w.heap.size ≤ b) (fun i => l.length - i) 0 (by repeat (first | exact trivial | refine ⟨rfl, ?_⟩)) ⟨Nat.zero_le _, hx1, rfl, gc, hC, hCn⟩ ?_
  rintro i w2 ⟨hi, hx2, hst, gc', hC2, hCn2⟩
  unfold pB
  (repeat (first | refine lw_pure hT rfl ?_ | refine lw_nil ?_ | refine cw_seq ?_ | refine cw_region ?_ | refine qw_then ?_))
  refine cw_cond rfl (fun e => ?_) (fun e => ?_)
  · have hlt : i < l.length := by have := of_decide_eq_true e; omega
    obtain ⟨fv, hrd, hstep⟩ := hrow i hlt
    obtain ⟨f, c, rfl, hf, hret⟩ := step_call (hstep.ex hx2) hC2 (good i hi).nd (hok _ (List.getElem_mem hlt)).2
    (repeat (first | refine cw_seq ?_ | refine cw_region ?_ | refine qw_then ?_ | refine cw_skip ?_ | refine cw_block ?_))
    refine lw_index hT rfl rfl rfl i rfl hlt ?_
    skip
    refine lw_load hT rfl rfl (v := .func (.func f) ⟨[]⟩ ⟨c⟩) ((hrd.ex hx2) 0 _ rfl) ?_
    (repeat (first | refine lw_pure hT rfl ?_ | refine lw_nil ?_ | refine cw_seq ?_ | refine cw_region ?_ | refine qw_then ?_))
    refine lw_call_fn hT rfl hf rfl hret ?_
    rintro _ w3 ⟨rfl, hm⟩
    have hx3 : Ex w w3 := hx2.up_new hm.ext hCn2
    (repeat (first | refine lw_pure hT rfl ?_ | refine lw_nil ?_ | refine cw_seq ?_ | refine cw_region ?_ | refine qw_then ?_))
    refine cw_cond rfl (fun e => ?_) (fun e => ?_)
    · have hne : actC (runA r (l.take i)) l[i] ≠ 0 := by simpa using e
      have hs := stepsC_at hlt hst hne
      (repeat (first | refine lw_pure hT rfl ?_ | refine lw_nil ?_ | refine cw_seq ?_ | refine cw_region ?_ | refine qw_then ?_ | refine cw_ret ?_ | refine qw_then_ret ?_ | refine qw_block_ret ?_))
      refine qw_ret rfl ⟨by rw [hs]; rfl, ?_⟩
      have e2 : stepsR r l = r := by unfold stepsR; rw [if_neg (by rw [hs]; exact hne)]
      rw [e2]
      exact Mut.of_ex hR hx3
    · have heq : actC (runA r (l.take i)) l[i] = 0 := by simpa using e
      obtain ⟨gc3, hC3, hf3⟩ := hm.is
      (repeat (first | (refine lw_add rfl rfl ?_ ?_ ?_; iterate 2 omega) | refine lw_pure hT rfl ?_ | refine lw_nil ?_ | refine cw_region ?_ | refine qw_then ?_ | refine cw_skip ?_ | refine qw_block ?_))
      refine qw_round (i + 1) (by repeat (first | exact trivial | refine ⟨rfl, ?_⟩)) ⟨hlt, hx3, stepsC_take hlt hst heq, gc3, by rw [runA_take hlt]; exact hC3, fun b hb => ?_⟩ (by omega)
      rcases hf3 b hb with h | h
      · exact hCn2 b h
      · have := hx2.size; omega
  · have hil : i = l.length := by have := of_decide_eq_false e; omega
    subst hil
    rw [List.take_length] at hst
    (repeat (first | refine lw_pure hT rfl ?_ | refine lw_nil ?_ | refine cw_seq ?_ | refine cw_region ?_ | refine qw_then ?_ | refine cw_block ?_ | refine cw_exit ?_ | refine qw_block_exit ?_ | refine qw_then_exit ?_))
    refine cw_loop (fun i : Nat => [(0, pB p), (1, .slice (some ⟨b, o, none⟩) l.length cap), (26, .slice (some ⟨b, o, none⟩) l.length cap), (27, .int .i64 (l.length : Nat)), (28, .int .i64 (i : Nat))])
      (fun i w' => i ≤ l.length ∧ Mut w2 p m gs (runA r (l.take i)) w') (fun i => l.length - i) 0 (by repeat (first | exact trivial | refine ⟨rfl, ?_⟩)) ⟨Nat.zero_le _, Mut.of_ex (hR.ex hx2) (Ext.refl _ _)⟩ ?_
    rintro j w3 ⟨hj, hm⟩
    obtain ⟨gs3, hR3, hf3⟩ := hm.is
    unfold pB
    (repeat (first | refine lw_pure hT rfl ?_ | refine lw_nil ?_ | refine cw_seq ?_ | refine cw_region ?_ | refine qw_then ?_))
    refine cw_cond rfl (fun e => ?_) (fun e => ?_)
    · have hlt : j < l.length := by have := of_decide_eq_true e; omega
      obtain ⟨fv, hrd, hstep⟩ := hrow j hlt
      obtain ⟨f, c, rfl, hf, hret⟩ := step_call ((hstep.ex hx2).ext hm.ext (fun b hb => (hdis b hb).1)) hR3 (good j hj).nd (hok _ (List.getElem_mem hlt)).2
      (repeat (first | refine cw_seq ?_ | refine cw_region ?_ | refine qw_then ?_ | refine cw_skip ?_ | refine cw_block ?_))
      refine lw_index hT rfl rfl rfl j rfl hlt ?_
      skip
      refine lw_load hT rfl rfl (v := .func (.func f) ⟨[]⟩ ⟨c⟩) (((hrd.ex hx2).ext hm.ext (hdis b hAb).1) 0 _ rfl) ?_
      (repeat (first | refine lw_pure hT rfl ?_ | refine lw_nil ?_ | refine cw_region ?_ | refine qw_then ?_))
      refine lw_call_fn hT rfl hf rfl hret ?_
      rintro _ w4 ⟨rfl, hm4⟩
      (repeat (first | (refine lw_add rfl rfl ?_ ?_ ?_; iterate 2 omega) | refine lw_pure hT rfl ?_ | refine lw_nil ?_ | refine cw_region ?_ | refine qw_then ?_ | refine qw_block ?_))
      exact qw_round (j + 1) (by repeat (first | exact trivial | refine ⟨rfl, ?_⟩)) ⟨hlt, by rw [runA_take hlt]; exact Mut.step hf3 hm.ext hm4⟩ (by omega)
    · have hjl : j = l.length := by have := of_decide_eq_false e; omega
      subst hjl
      rw [List.take_length] at hm
      (repeat (first | refine lw_pure hT rfl ?_ | refine lw_nil ?_ | refine cw_seq ?_ | refine cw_region ?_ | refine qw_then ?_ | refine cw_ret ?_ | refine cw_exit ?_ | refine qw_block_exit ?_ | refine qw_then_exit ?_))
      refine qw_ret rfl ⟨by rw [hst]; rfl, ?_⟩
      have e2 : stepsR r l = runA r l := by unfold stepsR; rw [if_pos hst]
      rw [e2]
      exact Mut.step (w' := w2) (fun b hb => .inl hb) (Ext.of_ex hx2) hm
end Go.Proofs.YtnglkhnfmbnfeaaGreat

/- Qc -/
namespace Go.Proofs.YtnglkhnfmbnfeaaGreat
open Go Go.SK

def NewIn (N : Nat) (w' : World) (b : Nat) : Prop := N ≤ b ∧ b < w'.heap.size
theorem RetAt.mono {A B : Nat → Prop} {w : World} {v : Value} {a : ActD} (h : RetAt A w v a) (hAB : ∀ b, A b → B b) : RetAt B w v a := by
  obtain ⟨b1, b2, b3, h1, h2, h3, h4, h5⟩ := h.is
  exact ⟨⟨b1, b2, b3, h1, hAB _ h2, hAB _ h3, hAB _ h4, h5⟩, h.kind⟩
theorem Sl.up {A B : Nat → Prop} {w : World} {v : Value} {size : Nat} {rows : List (List Value)} (h : Sl A w v size rows) (hAB : ∀ b, A b → B b) : Sl B w v size rows := by
  obtain ⟨a, cap, hv, hz, hr⟩ := h.is
  exact ⟨⟨a, cap, hv, hz, fun hne => by obtain ⟨b, o, ha, hb, hrd⟩ := hr hne; exact ⟨b, o, ha, hAB b hb, hrd⟩⟩, h.small⟩
theorem IssAt.mono {A B : Nat → Prop} {w : World} {v : Value} {a : ActD} (h : IssAt A w v a) (hAB : ∀ b, A b → B b) : IssAt B w v a := by
  obtain ⟨b1, b2, vb, vp, h1, h2, h3, h4, h5, h6, h7⟩ := h.is
  exact ⟨⟨b1, b2, vb, vp, h1, hAB _ h2, hAB _ h3, h4, Sl.up h5 hAB, Sl.up h6 hAB, h7⟩, h.kind⟩
theorem StepAt.mono {A B : Nat → Prop} {w : World} {v : Value} {a : ActD} (h : StepAt A w v a) (hAB : ∀ b, A b → B b) : StepAt B w v a := by
  rcases h with h | h
  · exact .inl (h.mono hAB)
  · exact .inr (h.mono hAB)
theorem spl_retire (bill by_ : ByteArray) (day : Int) (w : World) : Ret Tryz.prog 43 [.string bill, .string by_, .int .i64 day] w fun v w' => RetAt (NewIn w.heap.size w') w' v (retiA bill by_ day) ∧ v.oneCell' = true ∧ Ex w w' := by
  refine ret_of Tryz.func43 Tryz.ntmps43 rfl rfl rfl ?_
  (repeat (first | refine cw_seq ?_ | refine cw_region ?_))
  refine lw_box rfl ?_
  intro b1 w1 hbb1 hb1 hx1 hs1
  replace hb1 : Blk w1 b1 [.string bill] 9 := hb1
  skip
  refine lw_box rfl ?_
  intro b2 w2 hbb2 hb2 hx2 hs2
  replace hb2 : Blk w2 b2 [.string by_] 9 := hb2
  skip
  refine lw_box rfl ?_
  intro b3 w3 hbb3 hb3 hx3 hs3
  replace hb3 : Blk w3 b3 [.int .i64 day] 3 := hb3
  (repeat (first | refine lw_pure hT rfl ?_ | refine lw_nil ?_ | refine cw_seq ?_ | refine cw_region ?_ | refine qw_then ?_ | refine cw_ret ?_))
  exact qw_ret rfl ⟨⟨⟨b1, b2, b3, rfl, ⟨by omega, by omega⟩, ⟨by omega, by omega⟩, ⟨by omega, by omega⟩, (hb1.ex hx2).ex hx3, hb2.ex hx3, hb3⟩, rfl⟩, rfl, (hx1.trans hx2).trans hx3⟩
theorem spl_issue {A : Nat → Prop} {b : BillD} {vb vp : Value} (holder : ByteArray) (w : World) (hB : SlS A w vb b.boxes) (hP : SlS A w vp b.parents) : Ret Tryz.prog 44 [.agg ⟨encB b vb vp⟩, .string holder] w fun v w' => IssAt (fun x => A x ∨ NewIn w.heap.size w' x) w' v (issA b holder) ∧ v.oneCell' = true ∧ Ex w w' := by
  refine ret_of Tryz.func44 Tryz.ntmps44 rfl rfl rfl ?_
  (repeat (first | refine cw_seq ?_ | refine cw_region ?_))
  refine lw_box rfl ?_
  intro b1 w1 hbb1 hb1 hx1 hs1
  replace hb1 : Blk w1 b1 (encB b vb vp) 33 := hb1
  skip
  refine lw_box rfl ?_
  intro b2 w2 hbb2 hb2 hx2 hs2
  replace hb2 : Blk w2 b2 [.string holder] 9 := hb2
  have hx02 := hx1.trans hx2
  (repeat (first | refine lw_pure hT rfl ?_ | refine lw_nil ?_ | refine cw_seq ?_ | refine cw_region ?_ | refine qw_then ?_ | refine cw_ret ?_))
  exact qw_ret rfl ⟨⟨⟨b1, b2, vb, vp, rfl, .inr ⟨by omega, by omega⟩, .inr ⟨by omega, by omega⟩, hb1.ex hx2, Sl.up (hB.ex hx02) fun _ h => .inl h, Sl.up (hP.ex hx02) fun _ h => .inl h, hb2⟩, rfl⟩, rfl, hx02⟩
theorem spl_next {b : BillD} {vb vp : Value} (number : ByteArray) (day : Int) (boxes parents : List ByteArray) {a1 a2 : Option Addr} {n1 n2 c1 c2 : Nat} (w : World) : Ret Tryz.prog 45 [.agg ⟨encB b vb vp⟩, .string number, .slice a1 n1 c1, .int .i64 day, .slice a2 n2 c2] w fun v w' => v = .agg ⟨encB (nextB b number boxes parents day) (.slice a1 n1 c1) (.slice a2 n2 c2)⟩ ∧ Ex w w' := by
  refine ret_of Tryz.func45 Tryz.ntmps45 rfl rfl rfl ?_
  (repeat (first | refine cw_seq ?_ | refine cw_region ?_))
  refine lw_box rfl ?_
  intro b5 w1 hbb1 hb1 hx1 hs1
  replace hb1 : Blk w1 b5 (encB b vb vp) 33 := hb1
  skip
  refine lw_alloc z33 ?_
  intro b10 w2 hbb2 hb2 hx2 hs2
  have hb12 := hb1.ex hx2
  (repeat (first | refine lw_pure hT rfl ?_ | refine lw_nil ?_ | refine cw_seq ?_ | refine cw_region ?_ | refine qw_then ?_))
  refine lw_load hT rfl rfl (v := .string b.carrier) (hb12.cell 1) ?_
  (repeat (refine lw_pure hT rfl ?_))
  refine lw_load hT rfl rfl (v := .string b.shipper) (hb12.cell 2) ?_
  (repeat (refine lw_pure hT rfl ?_))
  refine lw_load hT rfl rfl (v := .string b.frm) (hb12.cell 3) ?_
  (repeat (refine lw_pure hT rfl ?_))
  refine lw_load hT rfl rfl (v := .string b.to_) (hb12.cell 4) ?_
  (repeat (refine lw_pure hT rfl ?_))
  refine lw_load hT rfl rfl (v := .bool b.clean) (hb12.cell 8) ?_
  skip
  refine lw_build bt33 rfl ?_
  skip
  refine lw_store_agg hT rfl rfl rfl rfl (encB_one (A := fun _ => True) (w := w) (b := nextB b number boxes parents day) rfl rfl) hb2 (show (9 : Nat) ≤ 9 by decide) ?_
  intro w3 hb23 hx3 hs3
  replace hb23 : Blk w3 b10 (encB (nextB b number boxes parents day) (.slice a1 n1 c1) (.slice a2 n2 c2)) 33 := hb23
  (repeat (first | refine lw_nil ?_ | refine qw_then ?_ | refine cw_ret ?_))
  exact qw_ret_cell hT rfl rfl rfl rfl (vs := encB (nextB b number boxes parents day) (.slice a1 n1 c1) (.slice a2 n2 c2)) (hb23.rd 0 9) rfl ⟨rfl, hx1.trans (hx2.up_new hx3 (fun i h => by omega))⟩
end Go.Proofs.YtnglkhnfmbnfeaaGreat

/- Gk -/
namespace Go.Proofs.YtnglkhnfmbnfeaaGreat
open Go Go.SK

theorem origs_row {r : RegD} {n : ByteArray} {x : EntD} {w : World} {u : Value} {base : Nat} (h : r.at? n = some x) (h3 : x.ps.length = 3) (ho : w.ownsRow base 129 4 u (r.origsOf n).length ((r.origsOf n).map fun y => origRow n y.1 y.2).flatten) :
    ∃ g c, u = .slice (some ⟨g, 0, none⟩) 3 c ∧ base ≤ g ∧ ∀ i, i < 3 → Rd w g (0 + i * 4) (origRow n (papAt x i) i) := by
  have h3' : (r.origsOf n).length = 3 := (orig_at h h3 (i := 0) (by decide)).2
  obtain ⟨g, c, rfl⟩ := own_slice ho (by omega)
  rw [h3'] at ho ⊢
  have hsl : Sl (fun _ => True) w (.slice (some ⟨g, 0, none⟩) 3 c) 4 ((r.origsOf n).map fun y => origRow n y.1 y.2) := own_sl (by rw [List.length_map, h3']; exact ho) (by intro r hr; obtain ⟨y, _, rfl⟩ := List.mem_map.1 hr; rfl) (fun _ _ => trivial)
  refine ⟨g, c, rfl, (own_base ho rfl).1, fun i hi => ?_⟩
  obtain ⟨bb, oo, cc, hv, _, _, _, hrd⟩ := hsl.at (i := i) (row := origRow n (papAt x i) i) (by rw [List.getElem?_map, (orig_at h h3 hi).1]; rfl)
  simp only [Value.slice.injEq, Option.some.injEq, Addr.mk.injEq, and_true] at hv
  obtain ⟨⟨rfl, rfl⟩, _, _⟩ := hv
  exact hrd
theorem own_slice0 {w : World} {base e size n : Nat} {v : Value} {xs : List Value} (h : w.ownsRow base e size v n xs) : ∃ a cap, v = .slice a n cap := by
  rcases h.2 with ⟨rfl, h0⟩ | ⟨g, cap, cur, rfl, _⟩
  · subst h0; exact ⟨none, 0, rfl⟩
  · exact ⟨_, cap, rfl⟩
end Go.Proofs.YtnglkhnfmbnfeaaGreat

/- Qd -/
namespace Go.Proofs.YtnglkhnfmbnfeaaGreat
open Go Go.SK

theorem StepAt_ret {A : Nat → Prop} {w w' : World} {v : Value} {a : ActD} (h : RetAt A w v a) (hx : Ex w w') : RetAt A w' v a := by
  obtain ⟨b1, b2, b3, h1, h2, h3, h4, h5, h6, h7⟩ := h.is
  exact ⟨⟨b1, b2, b3, h1, h2, h3, h4, h5.ex hx, h6.ex hx, h7.ex hx⟩, h.kind⟩
theorem StepAt_iss {A : Nat → Prop} {w w' : World} {v : Value} {a : ActD} (h : IssAt A w v a) (hx : Ex w w') : IssAt A w' v a := by
  obtain ⟨b1, b2, vb, vp, h1, h2, h3, h4, h5, h6, h7⟩ := h.is
  exact ⟨⟨b1, b2, vb, vp, h1, h2, h3, h4.ex hx, h5.ex hx, h6.ex hx, h7.ex hx⟩, h.kind⟩
theorem retiA_ok {bill by_ : ByteArray} {day : Int} (h1 : bill.size ≤ maxLen) (h2 : by_.size ≤ maxLen) : StepOk (retiA bill by_ day) := ⟨.inr rfl, ⟨h1, h2, Nat.zero_le _, zeroB_ok⟩⟩
theorem issA_ok {b : BillD} {holder : ByteArray} (h1 : b.Ok) (h2 : holder.size ≤ maxLen) : StepOk (issA b holder) := ⟨.inl rfl, ⟨Nat.zero_le _, Nat.zero_le _, h2, h1⟩⟩
theorem nextB_ok {b : BillD} {number : ByteArray} {boxes parents : List ByteArray} {day : Int} (h : b.Ok) (h1 : number.size ≤ maxLen) (h2 : ∀ x ∈ boxes, x.size ≤ maxLen) (h3 : ∀ x ∈ parents, x.size ≤ maxLen) : (nextB b number boxes parents day).Ok := ⟨h1, h.carrier, h.shipper, h.frm, h.to_, h2, h3⟩
set_option maxHeartbeats 2000000 in
theorem spl_Switch {w : World} {p m k : Nat} {r : RegD} {gs : List GhostE} (hR : Rep w p r m gs) (hG : Good k r) (hk : k + 2 ≤ 1000000) (bill by_ number shipper frm : ByteArray) (day : Int) (h1 : bill.size ≤ maxLen) (h2 : by_.size ≤ maxLen) (h3 : number.size ≤ maxLen) (h4 : shipper.size ≤ maxLen) (h5 : frm.size ≤ maxLen) :
    Ret Tryz.prog 22 [.pointer (some ⟨p, 0, none⟩), .string bill, .string by_, .string number, .string shipper, .string frm, .int .i64 day] w fun u w' => u = .int .i64 (callC r (switchC r bill by_ number shipper frm day)) ∧ Mut w p m gs (callR r (switchC r bill by_ number shipper frm day)) w' := by
  have hfl : ∀ b ∈ foot p m gs, b < w.heap.size := fun b hb => hR.foot_lt hb
  refine ret_of Tryz.func22 Tryz.ntmps22 rfl rfl rfl ?_
  (repeat (first | refine lw_pure hT rfl ?_ | refine lw_nil ?_ | refine cw_seq ?_ | refine cw_region ?_ | refine qw_then ?_))
  refine lw_call hT rfl rfl (reg_Get hR (hG.small (by omega)) bill) ?_
  rintro _ w1 ⟨hget, hx1⟩
  unfold GetR at hget
  cases hat : r.at? bill with
  | none =>
    rw [hat] at hget
    dsimp only at hget
    subst hget
    have e1 : switchC r bill by_ number shipper frm day = (4, []) := by unfold switchC; rw [hat]
    rw [show callC r (switchC r bill by_ number shipper frm day) = 4 from by rw [e1]; rfl, show callR r (switchC r bill by_ number shipper frm day) = r from by rw [e1]; rfl]
    (repeat (refine lw_pure hT rfl ?_))
    refine lw_alloc z33 ?_
    intro b15 w2 hbb2 hb2 hx2 hs2
    skip
    refine lw_store_agg hT rfl rfl rfl rfl (encB_one (A := fun _ => True) (w := w) rfl rfl) hb2 (show (9 : Nat) ≤ 9 by decide) ?_
    intro w3 hb3 hx3 hs3
    have hx13 : Ex w1 w3 := hx2.up_new hx3 (fun i h => by omega)
    (repeat (first | refine lw_pure hT rfl ?_ | refine lw_nil ?_ | refine cw_seq ?_ | refine cw_region ?_ | refine qw_then ?_ | refine cw_ret ?_ | refine qw_then_ret ?_ | (refine cw_cond_t rfl ?_ ?_; focus (first | with_reducible rfl | with_reducible exact Bool.not_false | with_reducible exact Bool.not_true))))
    exact qw_ret rfl ⟨rfl, Mut.of_ex hR (hx1.trans hx13)⟩
  | some x =>
    rw [hat] at hget
    obtain ⟨ub, up, rfl, hub, hup⟩ := hget
    obtain ⟨b0, hb0⟩ : ∃ b0, b0 = { x.bill with shipper := shipper, frm := frm } := ⟨_, rfl⟩
    have e1 : switchC r bill by_ number shipper frm day = (0, [retiA bill by_ day, issA (nextB b0 number x.bill.boxes [bill] day) by_]) := by unfold switchC; rw [hat, hb0]
    rw [show callC r (switchC r bill by_ number shipper frm day) = stepsC r [retiA bill by_ day, issA (nextB b0 number x.bill.boxes [bill] day) by_] from by rw [e1]; rfl, show callR r (switchC r bill by_ number shipper frm day) = stepsR r [retiA bill by_ day, issA (nextB b0 number x.bill.boxes [bill] day) by_] from by rw [e1]; rfl]
    obtain ⟨a1, c1, rfl⟩ := own_slice0 hub
    obtain ⟨a2, c2, rfl⟩ := own_slice0 hup
    obtain ⟨hn, ix, hix⟩ := at_some hat
    have hxok := (hG.ent x (List.mem_of_getElem? hix)).ok
    have hbm := (may_len (hG.ent x (List.mem_of_getElem? hix)).may).1
    (repeat (refine lw_pure hT rfl ?_))
    refine lw_alloc z33 ?_
    intro b15 w2 hbb2 hb2 hx2 hs2
    skip
    refine lw_store_agg hT rfl rfl rfl rfl (encB_one (A := fun _ => True) (w := w) rfl rfl) hb2 (show (9 : Nat) ≤ 9 by decide) ?_
    intro w3 hb3 hx3 hs3
    (repeat (first | refine lw_pure hT rfl ?_ | refine lw_nil ?_ | refine cw_seq ?_ | refine cw_region ?_ | refine qw_then ?_ | refine cw_skip ?_ | (refine cw_cond_f rfl ?_ ?_; focus (first | with_reducible rfl | with_reducible exact Bool.not_false | with_reducible exact Bool.not_true))))
    refine lw_store (size := 1) hT rfl rfl rfl rfl hb3 (show (2 : Nat) < 9 by decide) ?_
    intro w4 hb4 hx4 hs4
    (repeat (refine lw_pure hT rfl ?_))
    refine lw_store (size := 1) hT rfl rfl rfl rfl hb4 (show (3 : Nat) < 9 by decide) ?_
    intro w5 hb5 hx5 hs5
    replace hb5 : Blk w5 b15 (encB b0 (.slice a1 x.bill.boxes.length c1) (.slice a2 x.bill.parents.length c2)) 33 := by rw [hb0]; exact hb5
    have hx15 : Ex w1 w5 := ((hx2.up_new hx3 (fun i h => by omega)).up_new hx4 (fun i h => by omega)).up_new hx5 (fun i h => by omega)
    have hx05 := hx1.trans hx15
    have hl1 := hx1.size
    have hl05 := hx05.size
    have hub5 := own_ex hub hx15
    have hbx : SlS (fun b => NewIn w.heap.size w5 b) w5 (.slice a1 x.bill.boxes.length c1) x.bill.boxes := sls_own hub5 fun b hb => own_base hub5 hb
    (repeat (first | refine lw_nil ?_ | refine cw_seq ?_ | refine qw_then ?_))
    refine cw_draw hM (fun w' => Ex w5 w') [16] rfl rfl (by repeat (first | with_reducible refine nop_then ?_ | with_reducible refine nop_block ?_ | with_reducible exact nop_body)) (fun w6 hx6 _ => ⟨hx6, ?_⟩)
    have hl6 := hx6.size
    (refine rw_takeP 0 rfl rfl (by kernel_rfl) (by kernel_rfl) (by kernel_rfl) (by kernel_rfl) rfl (yo_pure hT rfl) ?_; refine rw_takeP 1 rfl rfl (by kernel_rfl) (by kernel_rfl) (by kernel_rfl) (by kernel_rfl) rfl (yo_pure hT rfl) ?_; refine rw_takeP 2 rfl rfl (by kernel_rfl) (by kernel_rfl) (by kernel_rfl) (by kernel_rfl) rfl (yo_pure hT rfl) ?_; refine rw_takeP 3 rfl rfl (by kernel_rfl) (by kernel_rfl) (by kernel_rfl) (by kernel_rfl) rfl (yo_pure hT rfl) ?_)
    refine rw_take 5 rfl rfl (by kernel_rfl) (by kernel_rfl) (by kernel_rfl) (by kernel_rfl) rfl (yo_load_agg hT rfl rfl rfl (vs := encB b0 (.slice a1 x.bill.boxes.length c1) (.slice a2 x.bill.parents.length c2)) (fun w' hS => (hb5.ex hS).rd 0 9)) ?_
    (refine rw_takeP 6 rfl rfl (by kernel_rfl) (by kernel_rfl) (by kernel_rfl) (by kernel_rfl) rfl (yo_pure hT rfl) ?_; refine rw_takeP 7 rfl rfl (by kernel_rfl) (by kernel_rfl) (by kernel_rfl) (by kernel_rfl) rfl (yo_pure hT rfl) ?_)
    refine rw_take 8 rfl rfl (by kernel_rfl) (by kernel_rfl) (by kernel_rfl) (by kernel_rfl) rfl (yo_load hT rfl rfl (v := .slice a1 x.bill.boxes.length c1) (fun w' hS => (hb5.ex hS).cell 5)) ?_
    (refine rw_takeP 9 rfl rfl (by kernel_rfl) (by kernel_rfl) (by kernel_rfl) (by kernel_rfl) rfl (yo_pure hT rfl) ?_; refine rw_takeP 10 rfl rfl (by kernel_rfl) (by kernel_rfl) (by kernel_rfl) (by kernel_rfl) rfl (yo_pure hT rfl) ?_; refine rw_takeP 13 rfl rfl (by kernel_rfl) (by kernel_rfl) (by kernel_rfl) (by kernel_rfl) rfl (yo_pure hT rfl) ?_)
    refine rw_two 4 11 rfl rfl (by kernel_rfl) rfl rfl (fun hcl => ?_) (fun hcl => ?_)
    · refine lw_call hT rfl rfl (spl_retire bill by_ day w6) ?_
      rintro fv1 w7 ⟨hf1, ho1, hx7⟩
      have hx57 := hx6.trans hx7
      have hl7 := hx7.size
      (repeat (refine lw_nil ?_))
      refine qw_rw (by repeat (first | with_reducible refine nop_then ?_ | with_reducible refine nop_block ?_ | with_reducible exact nop_body)) hcl (fun _ => hx57) ?_
      refine rw_one 11 rfl (by kernel_rfl) rfl (fun hcl => ?_)
      refine lw_buildSlice sl31 rfl rfl rfl ?_
      intro bs w8 hbbs hbs hx8 hss
      have hx58 := hx57.trans hx8
      have hl8 := hx8.size
      (repeat (refine lw_nil ?_))
      refine qw_rw (by repeat (first | with_reducible refine nop_then ?_ | with_reducible refine nop_block ?_ | with_reducible exact nop_body)) hcl (fun _ => hx58) ?_
      have hpar : SlS (fun b => NewIn w.heap.size w8 b) w8 (.slice (some ⟨bs, 0, none⟩) 1 1) [bill] := Sl.of_rd (rows := [[.string bill]]) ⟨by omega, by omega⟩ (by simp) (hbs.rd 0 1) (show (1 : Nat) ≤ maxLen by decide)
      have hstep1 : RetAt (NewIn w.heap.size w8) w8 fv1 (retiA bill by_ day) := (StepAt_ret hf1 hx8).mono fun b hb => ⟨by have := hb.1; omega, by have := hb.2; omega⟩
      refine rw_one 12 rfl (by kernel_rfl) rfl (fun hcl => ?_)
      refine lw_call hT rfl rfl (spl_next (b := b0) number day x.bill.boxes [bill] w8) ?_
      rintro _ w9 ⟨rfl, hx9⟩
      have hx59 := hx58.trans hx9
      have hl9 := hx9.size
      (repeat (refine lw_nil ?_))
      refine qw_rw (by repeat (first | with_reducible refine nop_then ?_ | with_reducible refine nop_block ?_ | with_reducible exact nop_body)) hcl (fun _ => hx59) ?_
      refine rw_one 14 rfl (by kernel_rfl) rfl (fun hcl => ?_)
      have hbx9 : SlS (NewIn w.heap.size w9) w9 (.slice a1 x.bill.boxes.length c1) (nextB b0 number x.bill.boxes [bill] day).boxes := Sl.up (hbx.ex hx59) fun b hb => ⟨hb.1, by have := hb.2; omega⟩
      have hpar9 : SlS (NewIn w.heap.size w9) w9 (.slice (some ⟨bs, 0, none⟩) 1 1) (nextB b0 number x.bill.boxes [bill] day).parents := Sl.up (hpar.ex hx9) fun b hb => ⟨hb.1, by have := hb.2; omega⟩
      refine lw_call hT rfl rfl (spl_issue by_ w9 hbx9 hpar9) ?_
      rintro fv2 w10 ⟨hf2, ho2, hx10⟩
      have hx510 := hx59.trans hx10
      have hl10 := hx10.size
      obtain ⟨q1, q2, q3, e1, _⟩ := hstep1.is
      obtain ⟨q4, q5, _, _, e2, _⟩ := hf2.is
      subst e1
      subst e2
      (repeat (refine lw_nil ?_))
      refine qw_rw (by repeat (first | with_reducible refine nop_then ?_ | with_reducible refine nop_block ?_ | with_reducible exact nop_body)) hcl (fun _ => hx510) ?_
      refine rw_one 15 rfl (by kernel_rfl) rfl (fun hcl => ?_)
      refine lw_buildSlice sl98 rfl rfl rfl ?_
      intro bq w11 hbbq hbq hx11 hsq
      have hx511 := hx510.trans hx11
      have hl11 := hx11.size
      (repeat (refine lw_nil ?_))
      refine qw_rw (by repeat (first | with_reducible refine nop_then ?_ | with_reducible refine nop_block ?_ | with_reducible exact nop_body)) hcl (fun _ => hx511) ?_
      refine rw_one 16 rfl (by kernel_rfl) rfl (fun hcl => ?_)
      have hb0ok : b0.Ok := by rw [hb0]; exact ⟨hxok.number, hxok.carrier, h4, h5, hxok.to_, hxok.boxes, hxok.parents⟩
      have hsteps : StepsAt (NewIn w.heap.size w11) w11 (.slice (some ⟨bq, 0, none⟩) 2 2) [retiA bill by_ day, issA (nextB b0 number x.bill.boxes [bill] day) by_] := by
        refine ⟨⟨bq, 0, 2, rfl, ⟨by omega, by omega⟩, fun i hi => ?_⟩, show (2 : Nat) ≤ 65 by decide⟩
        match i, hi with
        | 0, _ => exact ⟨_, hbq.rd 0 1, .inl (((StepAt_ret (StepAt_ret (StepAt_ret hstep1 hx9) hx10) hx11)).mono fun b hb => ⟨hb.1, by have := hb.2; omega⟩)⟩
        | 1, _ => exact ⟨_, hbq.rd 1 1, .inr ((StepAt_iss hf2 hx11).mono fun b hb => by rcases hb with hb | hb <;> exact ⟨by have := hb.1; omega, by have := hb.2; omega⟩)⟩
      refine lw_call hT rfl rfl (spl_do ((hR.ex hx05).ex hx511) hG (l := [retiA bill by_ day, issA (nextB b0 number x.bill.boxes [bill] day) by_]) hk hsteps (fun a ha => ?_) (fun b hb => ⟨fun h => by have := hfl b h; have := hb.1; omega, hb.2⟩)) ?_
      · simp only [List.mem_cons, List.not_mem_nil, or_false] at ha
        rcases ha with rfl | rfl
        · exact retiA_ok h1 h2
        · exact issA_ok (nextB_ok hb0ok h3 hxok.boxes (by intro y hy; rw [List.mem_singleton.1 hy]; exact h1)) h2
      rintro _ w12 ⟨rfl, hm⟩
      (repeat (refine lw_nil ?_))
      refine qw_rw (by repeat (first | with_reducible refine nop_then ?_ | with_reducible refine nop_block ?_ | with_reducible exact nop_body)) hcl (fun h => absurd h (by decide)) ?_
      (refine rw_takeP 17 rfl rfl (by kernel_rfl) (by kernel_rfl) (by kernel_rfl) (by kernel_rfl) rfl (yo_pure hT rfl) ?_)
      refine rw_done (by kernel_rfl) ?_
      (repeat (first | refine qw_then ?_ | refine cw_ret ?_))
      exact qw_ret rfl ⟨rfl, Mut.step (fun b hb => .inl hb) (Ext.of_ex (hx05.trans hx511)) hm⟩
    · refine lw_buildSlice sl31 rfl rfl rfl ?_
      intro bs w7 hbbs hbs hx7 hss
      have hx57 := hx6.trans hx7
      have hl7 := hx7.size
      (repeat (refine lw_nil ?_))
      refine qw_rw (by repeat (first | with_reducible refine nop_then ?_ | with_reducible refine nop_block ?_ | with_reducible exact nop_body)) hcl (fun _ => hx57) ?_
      refine rw_one 4 rfl (by kernel_rfl) rfl (fun hcl => ?_)
      refine lw_call hT rfl rfl (spl_retire bill by_ day w7) ?_
      rintro fv1 w8 ⟨hf1, ho1, hx8⟩
      have hx58 := hx57.trans hx8
      have hl8 := hx8.size
      (repeat (refine lw_nil ?_))
      refine qw_rw (by repeat (first | with_reducible refine nop_then ?_ | with_reducible refine nop_block ?_ | with_reducible exact nop_body)) hcl (fun _ => hx58) ?_
      have hpar : SlS (fun b => NewIn w.heap.size w8 b) w8 (.slice (some ⟨bs, 0, none⟩) 1 1) [bill] := Sl.of_rd (rows := [[.string bill]]) ⟨by omega, by omega⟩ (by simp) ((hbs.ex hx8).rd 0 1) (show (1 : Nat) ≤ maxLen by decide)
      have hstep1 : RetAt (NewIn w.heap.size w8) w8 fv1 (retiA bill by_ day) := hf1.mono fun b hb => ⟨by have := hb.1; omega, hb.2⟩
      refine rw_one 12 rfl (by kernel_rfl) rfl (fun hcl => ?_)
      refine lw_call hT rfl rfl (spl_next (b := b0) number day x.bill.boxes [bill] w8) ?_
      rintro _ w9 ⟨rfl, hx9⟩
      have hx59 := hx58.trans hx9
      have hl9 := hx9.size
      (repeat (refine lw_nil ?_))
      refine qw_rw (by repeat (first | with_reducible refine nop_then ?_ | with_reducible refine nop_block ?_ | with_reducible exact nop_body)) hcl (fun _ => hx59) ?_
      refine rw_one 14 rfl (by kernel_rfl) rfl (fun hcl => ?_)
      have hbx9 : SlS (NewIn w.heap.size w9) w9 (.slice a1 x.bill.boxes.length c1) (nextB b0 number x.bill.boxes [bill] day).boxes := Sl.up (hbx.ex hx59) fun b hb => ⟨hb.1, by have := hb.2; omega⟩
      have hpar9 : SlS (NewIn w.heap.size w9) w9 (.slice (some ⟨bs, 0, none⟩) 1 1) (nextB b0 number x.bill.boxes [bill] day).parents := Sl.up (hpar.ex hx9) fun b hb => ⟨hb.1, by have := hb.2; omega⟩
      refine lw_call hT rfl rfl (spl_issue by_ w9 hbx9 hpar9) ?_
      rintro fv2 w10 ⟨hf2, ho2, hx10⟩
      have hx510 := hx59.trans hx10
      have hl10 := hx10.size
      obtain ⟨q1, q2, q3, e1, _⟩ := hstep1.is
      obtain ⟨q4, q5, _, _, e2, _⟩ := hf2.is
      subst e1
      subst e2
      (repeat (refine lw_nil ?_))
      refine qw_rw (by repeat (first | with_reducible refine nop_then ?_ | with_reducible refine nop_block ?_ | with_reducible exact nop_body)) hcl (fun _ => hx510) ?_
      refine rw_one 15 rfl (by kernel_rfl) rfl (fun hcl => ?_)
      refine lw_buildSlice sl98 rfl rfl rfl ?_
      intro bq w11 hbbq hbq hx11 hsq
      have hx511 := hx510.trans hx11
      have hl11 := hx11.size
      (repeat (refine lw_nil ?_))
      refine qw_rw (by repeat (first | with_reducible refine nop_then ?_ | with_reducible refine nop_block ?_ | with_reducible exact nop_body)) hcl (fun _ => hx511) ?_
      refine rw_one 16 rfl (by kernel_rfl) rfl (fun hcl => ?_)
      have hb0ok : b0.Ok := by rw [hb0]; exact ⟨hxok.number, hxok.carrier, h4, h5, hxok.to_, hxok.boxes, hxok.parents⟩
      have hsteps : StepsAt (NewIn w.heap.size w11) w11 (.slice (some ⟨bq, 0, none⟩) 2 2) [retiA bill by_ day, issA (nextB b0 number x.bill.boxes [bill] day) by_] := by
        refine ⟨⟨bq, 0, 2, rfl, ⟨by omega, by omega⟩, fun i hi => ?_⟩, show (2 : Nat) ≤ 65 by decide⟩
        match i, hi with
        | 0, _ => exact ⟨_, hbq.rd 0 1, .inl (((StepAt_ret (StepAt_ret (StepAt_ret hstep1 hx9) hx10) hx11)).mono fun b hb => ⟨hb.1, by have := hb.2; omega⟩)⟩
        | 1, _ => exact ⟨_, hbq.rd 1 1, .inr ((StepAt_iss hf2 hx11).mono fun b hb => by rcases hb with hb | hb <;> exact ⟨by have := hb.1; omega, by have := hb.2; omega⟩)⟩
      refine lw_call hT rfl rfl (spl_do ((hR.ex hx05).ex hx511) hG (l := [retiA bill by_ day, issA (nextB b0 number x.bill.boxes [bill] day) by_]) hk hsteps (fun a ha => ?_) (fun b hb => ⟨fun h => by have := hfl b h; have := hb.1; omega, hb.2⟩)) ?_
      · simp only [List.mem_cons, List.not_mem_nil, or_false] at ha
        rcases ha with rfl | rfl
        · exact retiA_ok h1 h2
        · exact issA_ok (nextB_ok hb0ok h3 hxok.boxes (by intro y hy; rw [List.mem_singleton.1 hy]; exact h1)) h2
      rintro _ w12 ⟨rfl, hm⟩
      (repeat (refine lw_nil ?_))
      refine qw_rw (by repeat (first | with_reducible refine nop_then ?_ | with_reducible refine nop_block ?_ | with_reducible exact nop_body)) hcl (fun h => absurd h (by decide)) ?_
      (refine rw_takeP 17 rfl rfl (by kernel_rfl) (by kernel_rfl) (by kernel_rfl) (by kernel_rfl) rfl (yo_pure hT rfl) ?_)
      refine rw_done (by kernel_rfl) ?_
      (repeat (first | refine qw_then ?_ | refine cw_ret ?_))
      exact qw_ret rfl ⟨rfl, Mut.step (fun b hb => .inl hb) (Ext.of_ex (hx05.trans hx511)) hm⟩
end Go.Proofs.YtnglkhnfmbnfeaaGreat

/- Qe -/
namespace Go.SK
open Go
attribute [local semireducible] CW LW QW Ret Kn
section
variable {P : Program} {T : Tab} {n : Nat} {fr : Fr} {w : World} {Q : Exit → Act → World → Prop} {ops : Array Oper} {rest : List Oper}
theorem findNow_at {k : ByteArray} : ∀ (ents : List MapEntry) (es : List (ByteArray × Value)) (i j : Nat) (u : Value), ents.map (fun e => (e.key, e.val)) = es.map (fun e => (Value.string e.1, e.2)) →
    Instr.findNow .string (.string k) ents i = some (some (j, u)) → ∃ q, j = i + q ∧ es[q]? = some (k, u)
  | [], [], i, j, u, _, h => by simp [Instr.findNow] at h
  | [], _ :: _, _, _, _, h, _ => by simp at h
  | _ :: _, [], _, _, _, h, _ => by simp at h
  | e :: ents, x :: es, i, j, u, h, hf => by
    simp only [List.map_cons, List.cons.injEq, Prod.mk.injEq] at h
    obtain ⟨⟨h1, h2⟩, h3⟩ := h
    have hb : (k == x.1) = decide (k = x.1) := by
      rw [Bool.eq_iff_iff, MapKept.bytes_beq]; simp
    simp only [Instr.findNow, h1, Instr.sameNow, hb] at hf
    by_cases hk : k = x.1
    · rw [decide_eq_true hk] at hf
      simp only [Option.some.injEq, Prod.mk.injEq] at hf
      obtain ⟨rfl, rfl⟩ := hf
      exact ⟨0, rfl, by rw [hk, h2]; rfl⟩
    · rw [decide_eq_false hk] at hf
      obtain ⟨q, g1, g2⟩ := findNow_at (k := k) ents es (i + 1) j u h3 hf
      exact ⟨q + 1, by omega, g2⟩
/-- A key that is there. -/
theorem run_mapUpdate_old {t e b : Nat} {z v u : Value} {es : List (ByteArray × Value)} {ks : ByteArray} (hM : MpT P t e z) (hm : Mp w b es) (hold : mget es ks = some u) :
    ∃ (q : Nat) (w1 : World), es[q]? = some (ks, u) ∧ (Instr.mapUpdate t (.map (some b)) (.string ks) v).run P w = .ok () w1 ∧ Mp w1 b (es.set q (ks, v)) ∧ Ext (· = b) w w1 ∧ w1.heap.size = w.heap.size := by
  obtain ⟨kt, hu, hkt, hz⟩ := hM
  obtain ⟨ents, clock, h1, h2, h3, h4⟩ := hm.is
  obtain ⟨r, g1, g2⟩ := findNow_mget (k := ks) ents.toList es 0 h2
  have hf := MapKept.run_findKey (P := P) (w := w) hkt g1
  rw [hold] at g2
  obtain ⟨⟨j, u'⟩, rfl, hu'⟩ := Option.map_eq_some_iff.1 g2
  have hu' : u' = u := hu'
  subst hu'
  obtain ⟨q, hj, hq⟩ := findNow_at ents.toList es 0 j u' h2 g1
  have hjq : j = q := by omega
  subst hjq
  have hck := fun em => MapKept.run_checkKey (P := P) (w := w) (k := .string ks) hkt trivial em 9999
  have hlt : j < es.length := (List.getElem?_eq_some_iff.1 hq).1
  have hle : ents.toList.length = es.length := by have := congrArg List.length h2; simpa using this
  have hkey : (ents[j]?).map (·.key) = some (.string ks) := by
    have := congrArg (·[j]?) h2
    simp only [List.getElem?_map, hq, Option.map_some] at this
    rw [← Array.getElem?_toList]
    cases he : ents.toList[j]? with
    | none => rw [he] at this; simp at this
    | some en => rw [he] at this; simp only [Option.map_some, Option.some.injEq, Prod.mk.injEq] at this; simp [this.1]
  have hst : (Instr.keyThatStays (.string ks) (.string ks)).run P w = .ok (.string ks) w := by
    have : Instr.sameBits 10000 (.string ks) (.string ks) = true := by
      show (ks == ks) = true
      rw [MapKept.bytes_beq]
    simp [Instr.keyThatStays, this]
  refine ⟨j, { w with heap := w.heap.setIfInBounds b (.map (ents.modify j fun e => { e with key := .string ks, val := v }) clock) }, hq, ?_, ⟨_, _, (MapKept.heap_set h1).1, ?_, ?_, ?_⟩, ⟨rfl, rfl, rfl, by simp, fun k _ hn => (MapKept.heap_set h1).2 k hn⟩, by simp⟩
  · simp only [Instr.mapUpdate, Sem.run_bind, run_underlying hu, Result.andThen_ok, MapKept.run_getObj_map h1, hck, hf, hkey, Option.getD_some, hst, MapKept.run_setObj_map _ h1]
  · apply List.ext_getElem?
    intro i
    have hi := congrArg (·[i]?) h2
    simp only [List.getElem?_map] at hi ⊢
    rw [Array.toList_modify, List.getElem?_modify, List.getElem?_set]
    by_cases hij : j = i
    · subst hij
      have hil : j < ents.toList.length := by omega
      simp [hlt, List.getElem?_eq_getElem hil]
    · simp only [if_neg hij]
      simpa using hi
  · rw [List.length_set, ← h3]
    apply List.ext_getElem?
    intro i
    simp only [List.getElem?_map]
    rw [Array.toList_modify, List.getElem?_modify]
    by_cases hij : j = i
    · subst hij
      have hil : j < ents.toList.length := by omega
      simp [List.getElem?_eq_getElem hil]
    · simp [hij]
  · simp [h4]
theorem lw_mapUpdate_old {t e b : Nat} {z v u0 : Value} {es : List (ByteArray × Value)} {ks : ByteArray} {x y u : Operand} {ty : TypeId} {ps : String} {af : Array Edge} (hM : MpT P t e z) (hx : ev n fr x = some (.map (some b))) (hy : ev n fr y = some (.string ks)) (hv : ev n fr u = some v)
    (hm : Mp w b es) (hold : mget es ks = some u0) (k : ∀ (q : Nat) w1, es[q]? = some (ks, u0) → Mp w1 b (es.set q (ks, v)) → Ext (· = b) w w1 → w1.heap.size = w.heap.size → LW P ops Q rest n fr w1) :
    LW P ops Q ({ dst := none, op := .mapUpdate t x y u, type := ty, pos := ps, after := af, guard := none } :: rest) n fr w := by
  obtain ⟨q, w1, g0, g1, g2, g3, g4⟩ := run_mapUpdate_old (P := P) (v := v) hM hm hold
  exact lw_run_skip rfl rfl (w' := w1) (fun a hk => by simp [execOp, ev_sound hk hx, ev_sound hk hy, ev_sound hk hv, g1]) (k q w1 g0 g2 g3 g4)
end
end Go.SK
namespace Go.Proofs.YtnglkhnfmbnfeaaGreat
open Go Go.SK

theorem perm_of_mem {a b : List ByteArray} (ha : a.Nodup) (hb : b.Nodup) (h : ∀ x, x ∈ a ↔ x ∈ b) : a.Perm b := by
  induction a generalizing b with
  | nil =>
    cases b with
    | nil => exact List.Perm.refl _
    | cons x b => have := (h x).2 (by simp); simp at this
  | cons x a ih =>
    obtain ⟨h1, h2⟩ := List.nodup_cons.1 ha
    obtain ⟨s, t, rfl⟩ := List.append_of_mem ((h x).1 (by simp))
    have hp : (s ++ x :: t).Perm (x :: (s ++ t)) := List.perm_middle
    have hn := (hp.nodup_iff).1 hb
    obtain ⟨h3, h4⟩ := List.nodup_cons.1 hn
    refine (List.Perm.cons x (ih h2 h4 fun y => ?_)).trans hp.symm
    have hy := h y
    rw [hp.mem_iff] at hy
    simp only [List.mem_cons] at hy
    constructor
    · intro hm
      rcases hy.1 (.inr hm) with rfl | h
      · exact absurd hm h1
      · exact h
    · intro hm
      rcases hy.2 (.inr hm) with rfl | h
      · exact absurd hm h3
      · exact h
theorem len_nodup {s l : List ByteArray} (hs : s.Nodup) (h : ∀ x, x ∈ s ↔ x ∈ l) : s.length = l.length ↔ l.Nodup := by
  constructor
  · intro hl
    exact (nodup_perm hs (fun x hx => (h x).1 hx) hl).nodup_iff.1 hs
  · intro hl
    exact (perm_of_mem hs hl h).length_eq
theorem seen_in {s : List ByteArray} {x : ByteArray} (hx : x ∈ s) : mget (s.map fun y => (y, Value.bool true)) x = some (.bool true) := by
  induction s with
  | nil => simp at hx
  | cons a s ih =>
    rw [List.map_cons, mget_cons]
    by_cases h : x = a
    · rw [if_pos h]
    · rw [if_neg h]
      rcases List.mem_cons.1 hx with h' | h'
      · exact absurd h' h
      · exact ih h'
theorem seen_not {s : List ByteArray} {x : ByteArray} (hx : x ∉ s) : mget (s.map fun y => (y, Value.bool true)) x = none := by
  induction s with
  | nil => rfl
  | cons a s ih =>
    rw [List.map_cons, mget_cons, if_neg (fun h => hx (by simp [h]))]
    exact ih fun h => hx (List.mem_cons_of_mem _ h)
theorem spl_unlike {A : Nat → Prop} {w : World} {v : Value} {l : List ByteArray} (hS : SlS A w v l) : Ret Tryz.prog 41 [v] w fun u w' => u = .bool (decide l.Nodup) ∧ Ex w w' := by
  obtain ⟨a, c, rfl, _, hr⟩ := hS.is
  have hsm := hS.small
  simp only [List.length_map] at *
  unfold maxLen at hsm
  refine ret_of Tryz.func41 Tryz.ntmps41 rfl rfl rfl ?_
  (repeat (first | refine lw_pure hT rfl ?_ | refine lw_nil ?_ | refine cw_seq ?_ | refine cw_region ?_ | refine qw_then ?_))
  refine lw_makeMap ?_
  intro b w1 hbb hm1 hx1 hs1
  (repeat (first | refine lw_pure hT rfl ?_ | refine lw_nil ?_ | refine cw_seq ?_ | refine cw_region ?_ | refine qw_then ?_ | refine cw_block ?_))
  refine cw_loop (fun i : Nat => [(0, .slice a l.length c), (3, .map (some b)), (7, .slice a l.length c), (8, .int .i64 (l.length : Nat)), (9, .int .i64 (i : Nat))])
    (fun i w' => i ≤ l.length ∧ Ex w w' ∧ ∃ s : List ByteArray, Mp w' b (s.map fun y => (y, Value.bool true)) ∧ s.Nodup ∧ ∀ x, x ∈ s ↔ x ∈ l.take i) (fun i => l.length - i) 0 (by repeat (first | exact trivial | refine ⟨rfl, ?_⟩)) ⟨Nat.zero_le _, hx1, [], hm1, List.nodup_nil, fun x => by simp⟩ ?_
  rintro i w2 ⟨hi, hx2, s, hm2, hsn, hmem⟩
  (repeat (first | refine lw_pure hT rfl ?_ | refine lw_nil ?_ | refine cw_seq ?_ | refine cw_region ?_ | refine qw_then ?_))
  refine cw_cond rfl (fun e => ?_) (fun e => ?_)
  · have hlt : i < l.length := by have := of_decide_eq_true e; omega
    have hne : l.map (fun s => [Value.string s]) ≠ [] := by intro e; simp at e; rw [e] at hlt; simp at hlt
    obtain ⟨bb, oo, rfl, _, hrd⟩ := hr hne
    have hri := (hrd i [.string l[i]] (by simp [hlt])).2.ex hx2
    obtain ⟨x, hx⟩ : ∃ x, x = l[i] := ⟨_, rfl⟩
    rw [← hx] at hri
    have etake : l.take (i + 1) = l.take i ++ [x] := by rw [List.take_succ_eq_append_getElem hlt, hx]
    (repeat (first | refine cw_seq ?_ | refine cw_region ?_ | refine qw_then ?_ | refine cw_skip ?_ | refine cw_block ?_))
    refine lw_index hT rfl rfl rfl i rfl hlt ?_
    skip
    refine lw_load hT rfl rfl (v := .string x) (hri 0 _ rfl) ?_
    (repeat (first | refine lw_pure hT rfl ?_ | refine lw_nil ?_ | refine cw_region ?_ | refine qw_then ?_))
    by_cases hxs : x ∈ s
    · refine lw_mapUpdate_old mp111 rfl rfl rfl hm2 (seen_in hxs) ?_
      intro q w3 hq hm3 hx3 hs3
      have eset : (s.map fun y => (y, Value.bool true)).set q (x, .bool true) = s.map fun y => (y, Value.bool true) := by
        obtain ⟨hql, hqe⟩ := List.getElem?_eq_some_iff.1 hq
        rw [← hqe, List.set_getElem_self]
      rw [eset] at hm3
      (repeat (first | (refine lw_add rfl rfl ?_ ?_ ?_; iterate 2 omega) | refine lw_pure hT rfl ?_ | refine lw_nil ?_ | refine cw_region ?_ | refine qw_then ?_ | refine qw_block ?_))
      refine qw_round (i + 1) (by repeat (first | exact trivial | refine ⟨rfl, ?_⟩)) ⟨hlt, hx2.up_new hx3 (fun j hj => by omega), s, hm3, hsn, fun y => ?_⟩ (by omega)
      rw [etake, List.mem_append, ← hmem y, List.mem_singleton]
      exact ⟨.inl, fun h => h.elim id fun h => h ▸ hxs⟩
    · refine lw_mapUpdate mp111 rfl rfl rfl hm2 (seen_not hxs) ?_
      intro w3 hm3 hx3 hs3
      (repeat (first | (refine lw_add rfl rfl ?_ ?_ ?_; iterate 2 omega) | refine lw_pure hT rfl ?_ | refine lw_nil ?_ | refine cw_region ?_ | refine qw_then ?_ | refine qw_block ?_))
      refine qw_round (i + 1) (by repeat (first | exact trivial | refine ⟨rfl, ?_⟩)) ⟨hlt, hx2.up_new hx3 (fun j hj => by omega), s ++ [x], by simpa using hm3, ?_, fun y => ?_⟩ (by omega)
      · exact ((List.perm_append_comm).nodup_iff).2 (List.nodup_cons.2 ⟨hxs, hsn⟩)
      · rw [etake, List.mem_append, List.mem_append, hmem y]
  · have hil : i = l.length := by have := of_decide_eq_false e; omega
    subst hil
    rw [List.take_length] at hmem
    (repeat (first | refine lw_pure hT rfl ?_ | refine cw_seq ?_ | refine cw_region ?_ | refine qw_then ?_ | refine cw_exit ?_ | refine qw_block_exit ?_ | refine qw_then_exit ?_))
    refine lw_maplen mp111 rfl hm2 ?_
    (repeat (first | refine lw_pure hT rfl ?_ | refine lw_nil ?_ | refine qw_then ?_ | refine cw_ret ?_))
    refine qw_ret rfl ⟨?_, hx2⟩
    have := len_nodup hsn hmem
    show Value.bool _ = Value.bool _
    congr 1
    rw [decide_eq_decide, ← this, List.length_map]
    omega
end Go.Proofs.YtnglkhnfmbnfeaaGreat

/- Qf -/
namespace Go.Proofs.YtnglkhnfmbnfeaaGreat
open Go Go.SK

theorem take_all_eq {l l' : List ByteArray} (hl : l.length = l'.length) (h : ∀ i (h1 : i < l.length) (h2 : i < l'.length), l[i] = l'[i]) : l = l' := List.ext_getElem hl h
set_option maxHeartbeats 1000000 in
theorem sl_Equal {A B : Nat → Prop} {w : World} {v u : Value} {l l' : List ByteArray} (hS : SlS A w v l) (hS' : SlS B w u l') : Ret Tryz.prog 89 [v, u] w fun x w' => x = .bool (decide (l = l')) ∧ Ex w w' := by
  obtain ⟨a, c, rfl, _, hr⟩ := hS.is
  obtain ⟨a', c', rfl, _, hr'⟩ := hS'.is
  have hsm := hS.small
  have hsm' := hS'.small
  simp only [List.length_map] at *
  unfold maxLen at hsm hsm'
  refine ret_of Tryz.func89 Tryz.ntmps89 rfl rfl rfl ?_
  (repeat (first | refine lw_pure hT rfl ?_ | refine lw_nil ?_ | refine cw_seq ?_ | refine cw_region ?_ | refine qw_then ?_))
  refine cw_cond rfl (fun e => ?_) (fun e => ?_)
  · have hne : ¬ l.length = l'.length := by have := of_decide_eq_true e; omega
    (repeat (first | refine lw_pure hT rfl ?_ | refine lw_nil ?_ | refine cw_seq ?_ | refine cw_region ?_ | refine qw_then ?_ | refine cw_ret ?_ | refine qw_then_ret ?_))
    exact qw_ret rfl ⟨by rw [decide_eq_false (fun h => hne (by rw [h]))]; rfl, Ext.refl _ _⟩
  have hlen : l.length = l'.length := by have := of_decide_eq_false e; omega
  (repeat (first | refine lw_pure hT rfl ?_ | refine lw_nil ?_ | refine cw_seq ?_ | refine cw_region ?_ | refine qw_then ?_ | refine cw_skip ?_ | refine cw_block ?_))
  refine cw_loop (fun i : Nat => [(0, .slice a l.length c), (1, .slice a' l'.length c'), (12, .int .i64 (l.length : Nat)), (13, .int .i64 (i : Nat))])
    (fun i w' => i ≤ l.length ∧ Ex w w' ∧ ∀ j (h1 : j < l.length) (h2 : j < l'.length), j < i → l[j] = l'[j]) (fun i => l.length - i) 0 (by repeat (first | exact trivial | refine ⟨rfl, ?_⟩)) ⟨Nat.zero_le _, Ext.refl _ _, fun j _ _ h => by omega⟩ ?_
  rintro i w2 ⟨hi, hx2, heq⟩
  (repeat (first | refine lw_pure hT rfl ?_ | refine lw_nil ?_ | refine cw_seq ?_ | refine cw_region ?_ | refine qw_then ?_))
  refine cw_cond rfl (fun e => ?_) (fun e => ?_)
  · have hlt : i < l.length := by have := of_decide_eq_true e; omega
    have hlt' : i < l'.length := by omega
    have hne : l.map (fun s => [Value.string s]) ≠ [] := by intro e; simp at e; rw [e] at hlt; simp at hlt
    have hne' : l'.map (fun s => [Value.string s]) ≠ [] := by intro e; simp at e; rw [e] at hlt'; simp at hlt'
    obtain ⟨b, o, rfl, _, hrd⟩ := hr hne
    obtain ⟨b', o', rfl, _, hrd'⟩ := hr' hne'
    have r1 : ∀ w' : World, Ex w w' → w'.cell? ⟨b, o + i * 1, none⟩ = some (.string l[i]) := fun w' hx => by
      have := ((hrd i [.string l[i]] (by simp [hlt])).2.ex hx) 0 _ rfl
      exact this
    have r2 : ∀ w' : World, Ex w w' → w'.cell? ⟨b', o' + i * 1, none⟩ = some (.string l'[i]) := fun w' hx => by
      have := ((hrd' i [.string l'[i]] (by simp [hlt'])).2.ex hx) 0 _ rfl
      exact this
    (repeat (first | refine lw_pure hT rfl ?_ | refine lw_nil ?_ | refine cw_seq ?_ | refine cw_region ?_ | refine qw_then ?_ | refine cw_skip ?_ | refine cw_block ?_))
    refine cw_draw hM (fun w' => Ex w2 w') [] rfl rfl (by repeat (first | with_reducible refine nop_then ?_ | with_reducible refine nop_block ?_ | with_reducible exact nop_body)) (fun w3 hx3 _ => ⟨hx3, ?_⟩)
    (refine rw_takeP 0 rfl rfl (by kernel_rfl) (by kernel_rfl) (by kernel_rfl) (by kernel_rfl) rfl (yo_pure hT rfl) ?_; refine rw_takeP 1 rfl rfl (by kernel_rfl) (by kernel_rfl) (by kernel_rfl) (by kernel_rfl) rfl (yo_pure hT rfl) ?_)
    refine rw_takeP 2 rfl rfl (by kernel_rfl) (by kernel_rfl) (by kernel_rfl) (by kernel_rfl) rfl (yo_index hT rfl rfl rfl i rfl hlt) ?_
    refine rw_take 3 rfl rfl (by kernel_rfl) (by kernel_rfl) (by kernel_rfl) (by kernel_rfl) rfl (yo_load hT rfl rfl (v := .string l[i]) (fun w' hS => r1 w' (hx2.trans hS))) ?_
    (refine rw_takeP 4 rfl rfl (by kernel_rfl) (by kernel_rfl) (by kernel_rfl) (by kernel_rfl) rfl (yo_pure hT rfl) ?_; refine rw_takeP 5 rfl rfl (by kernel_rfl) (by kernel_rfl) (by kernel_rfl) (by kernel_rfl) rfl (yo_pure hT rfl) ?_)
    refine rw_takeP 6 rfl rfl (by kernel_rfl) (by kernel_rfl) (by kernel_rfl) (by kernel_rfl) rfl (yo_index hT rfl rfl rfl i rfl hlt') ?_
    refine rw_take 7 rfl rfl (by kernel_rfl) (by kernel_rfl) (by kernel_rfl) (by kernel_rfl) rfl (yo_load hT rfl rfl (v := .string l'[i]) (fun w' hS => r2 w' (hx2.trans hS))) ?_
    (refine rw_takeP 8 rfl rfl (by kernel_rfl) (by kernel_rfl) (by kernel_rfl) (by kernel_rfl) rfl (yo_pure hT rfl) ?_)
    refine rw_done (by kernel_rfl) ?_
    (repeat (refine qw_then ?_))
    refine cw_cond rfl (fun e => ?_) (fun e => ?_)
    · have hne : l[i] ≠ l'[i] := of_decide_eq_true e
      (repeat (first | refine lw_pure hT rfl ?_ | refine lw_nil ?_ | refine cw_seq ?_ | refine cw_region ?_ | refine qw_then ?_ | refine cw_ret ?_ | refine qw_then_ret ?_ | refine qw_block_ret ?_))
      exact qw_ret rfl ⟨by rw [decide_eq_false (fun h => hne (by subst h; rfl))]; rfl, hx2.trans hx3⟩
    · have he : l[i] = l'[i] := by have := of_decide_eq_false e; exact Decidable.not_not.1 this
      (repeat (first | (refine lw_add rfl rfl ?_ ?_ ?_; iterate 2 omega) | refine lw_pure hT rfl ?_ | refine lw_nil ?_ | refine cw_region ?_ | refine qw_then ?_ | refine cw_skip ?_ | refine qw_block ?_))
      refine qw_round (i + 1) (by repeat (first | exact trivial | refine ⟨rfl, ?_⟩)) ⟨hlt, hx2.trans hx3, fun j h1 h2 hj => ?_⟩ (by omega)
      rcases Nat.lt_or_ge j i with h | h
      · exact heq j h1 h2 h
      · have : j = i := by omega
        subst this; exact he
  · have hil : i = l.length := by have := of_decide_eq_false e; omega
    subst hil
    (repeat (first | refine lw_pure hT rfl ?_ | refine lw_nil ?_ | refine cw_seq ?_ | refine cw_region ?_ | refine qw_then ?_ | refine cw_ret ?_ | refine cw_exit ?_ | refine qw_block_exit ?_ | refine qw_then_exit ?_))
    exact qw_ret rfl ⟨by rw [decide_eq_true (take_all_eq hlen fun j h1 h2 => heq j h1 h2 h1)]; rfl, hx2⟩
end Go.Proofs.YtnglkhnfmbnfeaaGreat

/- Qg -/
namespace Go.SK
open Go
attribute [local semireducible] CW LW QW Ret Kn
section
variable {P : Program} {T : Tab} {n : Nat} {fr : Fr} {w : World} {Q : Exit → Act → World → Prop} {ops : Array Oper} {rest : List Oper}
theorem run_append_make {t u ty e size bytes m : Nat} (hS : SlT P t e size bytes) (hu : P.underlying u = some (.int .i64)) (h0 : 0 < m) (hm : m ≤ maxLen) (hb : m * bytes ≤ 140737488355328) :
    ∃ cap w1, (Builtin.append_ #[t, u] ty #[.slice none 0 0, .int .i64 (m : Nat)]).run P w = .ok (.slice (some ⟨w.heap.size, 0, none⟩) m cap) w1 ∧ w1.ownsRow w.heap.size e size (.slice (some ⟨w.heap.size, 0, none⟩) 0 cap) 0 [] ∧ m ≤ cap ∧ Ex w w1 ∧ w1.heap.size = w.heap.size + 1 := by
  obtain ⟨ht, i, z, hi, hz, hs, hby, hzs⟩ := hS
  unfold maxLen at hm
  have hn : m ≠ 0 := by omega
  have h63' : ¬ (9223372036854775807 < (m : Int)) := by omega
  have h48' : ¬ (281474976710656 < Builtin.nextslicecap m 0 * i.bytes) := by rw [nextslicecap_zero h0, hby]; omega
  have h48 : ¬ ((281474976710656 : Int) < (m : Int) * (i.bytes : Int)) := by
    rw [hby]
    intro h
    have h9 : (281474976710656 : Int) < ((m * bytes : Nat) : Int) := by rw [Int.natCast_mul]; exact h
    have h10 := Int.ofNat_lt.1 h9
    omega
  have hw : IntKind.i64.wrap (m : Int) = m := IntWalk.i64_in _ ⟨by omega, by omega⟩
  have hneg : ¬ ((m : Int) < 0) := by omega
  have hge := grownCap_ge w m 0 e
  have hcm := grownCap_le_maxLen w m 0 e (by unfold maxLen; omega)
  have key : (Builtin.append_ #[t, u] ty #[.slice none 0 0, .int .i64 (m : Nat)]).run P w = .ok (.slice (some ⟨w.heap.size, 0, none⟩) m (grownCap w m 0 e))
      (w.drew.alloc (.cells (Builtin.zeroCells z.cells m ++ Builtin.zeroCells z.cells (grownCap w m 0 e - m)) e)) := by
    simp [Builtin.append_, run_underlying ht, run_underlying hu, sizeOf, typeInfo, zeroValue, hi, hz, Builtin.lenOf, Builtin.firstCells, hn, h63', h48', h48, hw, hneg, asInt, asIntOf, Question.forced, newRow, grownCap]
    intro h
    rw [hs] at h
    have h9 : Builtin.zeroCells z.cells m = #[] := by unfold Builtin.zeroCells; rw [hzs, h]; simp
    rw [h9]; simp
  refine ⟨_, _, key, ⟨by simp, .inr ⟨w.heap.size, _, _, rfl, Nat.le_refl _, heap_alloc_new w.drew _, Nat.zero_le _, hcm, ?_, by simp⟩⟩, hge, (Ext.drawn w _).trans (Ext.alloc _ _), by simp⟩
  simp only [Array.size_append, size_zeroCells, hzs, ← Nat.add_mul]
  congr 1
  omega
theorem lw_cap (hT : TabOk P T) {d t size len cap : Nat} {p : Option Addr} {x : Operand} {ty : TypeId} {ps : String} {af : Array Edge} (hx : ev n fr x = some (.slice p len cap)) (ht : look T.sls t = some size)
    (k : LW P ops Q rest n ((d, .int .i64 (cap : Nat)) :: fr) w) :
    LW P ops Q ({ dst := some d, op := .call ⟨.builtin .cap, #[x], #[t]⟩, type := ty, pos := ps, after := af, guard := none } :: rest) n fr w := by
  obtain ⟨e, inf, hu, hi, hs⟩ := hT.sl ht
  exact lw_run rfl rfl (fun a hk => by simp [execOp, resolve, invoke, builtin, Builtin.cap_, ev_sound hk hx, run_underlying hu, goInt]) k
theorem lw_append_make {d t u e size bytes m : Nat} {x y : Operand} {ty : TypeId} {ps : String} {af : Array Edge} (hS : SlT P t e size bytes) (hu : P.underlying u = some (.int .i64)) (hx : ev n fr x = some (.slice none 0 0)) (hy : ev n fr y = some (.int .i64 (m : Nat)))
    (h0 : 0 < m) (hm : m ≤ maxLen) (hb : m * bytes ≤ 140737488355328)
    (k : ∀ cap w1, w1.ownsRow w.heap.size e size (.slice (some ⟨w.heap.size, 0, none⟩) 0 cap) 0 [] → m ≤ cap → Ex w w1 → w1.heap.size = w.heap.size + 1 → LW P ops Q rest n ((d, .slice (some ⟨w.heap.size, 0, none⟩) m cap) :: fr) w1) :
    LW P ops Q ({ dst := some d, op := .call ⟨.builtin .append, #[x, y], #[t, u]⟩, type := ty, pos := ps, after := af, guard := none } :: rest) n fr w := by
  obtain ⟨cap, w1, g1, g2, g3, g4, g5⟩ := run_append_make (P := P) (w := w) (ty := ty) hS hu h0 hm hb
  exact lw_run rfl rfl (w' := w1) (fun a hk => by simp [execOp, resolve, invoke, builtin, ev_sound hk hx, ev_sound hk hy, g1]) (k cap w1 g2 g3 g4 g5)
end
end Go.SK
namespace Go.Proofs.YtnglkhnfmbnfeaaGreat
open Go Go.SK
/-- slices.Grow of nil. -/
theorem sl_Grow {m : Nat} (w : World) (hm : m * 16 ≤ 140737488355328) : Ret Tryz.prog 133 [.slice none 0 0, .int .i64 (m : Nat)] w fun v w' => w'.ownsRow w.heap.size 9 1 v 0 [] ∧ Ex w w' := by
  refine ret_of Tryz.func133 Tryz.ntmps133 rfl rfl rfl ?_
  (repeat (first | refine lw_pure hT rfl ?_ | refine lw_nil ?_ | refine cw_seq ?_ | refine cw_region ?_ | refine qw_then ?_))
  refine cw_cond rfl (fun e => by have := of_decide_eq_true e; omega) (fun _ => ?_)
  (repeat (first | refine lw_pure hT rfl ?_ | refine cw_seq ?_ | refine cw_region ?_ | refine qw_then ?_ | refine cw_skip ?_))
  refine lw_cap hT rfl rfl ?_
  (repeat (first | (refine lw_sub rfl rfl ?_ ?_ ?_; iterate 2 omega) | refine lw_pure hT rfl ?_ | refine lw_nil ?_ | refine cw_seq ?_ | refine cw_region ?_ | refine qw_then ?_))
  have e0 : ((m : Nat) : Int) - (((0 : Nat) : Int) - ((0 : Nat) : Int)) = ((m : Nat) : Int) := by omega
  rw [e0]
  refine cw_cond rfl (fun e => ?_) (fun e => ?_)
  · have h0 : 0 < m := by have := of_decide_eq_true e; omega
    (repeat (first | refine lw_pure hT rfl ?_ | refine cw_region ?_))
    refine lw_cap hT rfl rfl ?_
    skip
    refine lw_slice_sl hT rfl rfl rfl rfl 0 0 rfl rfl (Nat.le_refl _) (Nat.le_refl _) ?_
    (repeat (refine lw_pure hT rfl ?_))
    refine lw_append_make sl31 (by kernel_rfl) rfl rfl h0 (by unfold maxLen; omega) hm ?_
    intro cap w1 h1 h2 h3 h4
    (repeat (refine lw_pure hT rfl ?_))
    refine lw_slice_sl hT rfl rfl rfl rfl 0 0 rfl rfl (Nat.le_refl _) (Nat.zero_le _) ?_
    (repeat (first | refine lw_pure hT rfl ?_ | refine lw_nil ?_ | refine cw_seq ?_ | refine cw_region ?_ | refine qw_then ?_ | refine cw_ret ?_))
    refine qw_ret rfl ⟨?_, h3⟩
    have hc : ¬ cap = 0 := by omega
    simpa [hc, oneOr, Addr.add] using h1
  · (repeat (first | refine lw_pure hT rfl ?_ | refine lw_nil ?_ | refine cw_seq ?_ | refine cw_region ?_ | refine qw_then ?_ | refine cw_ret ?_ | refine cw_skip ?_))
    exact qw_ret rfl ⟨⟨rfl, .inl ⟨rfl, rfl⟩⟩, Ext.refl _ _⟩
end Go.Proofs.YtnglkhnfmbnfeaaGreat

/- Qh -/
namespace Go.Proofs.YtnglkhnfmbnfeaaGreat
open Go Go.SK

/-- A slice of slices of texts. -/
structure SlsAt (A : Nat → Prop) (w : World) (v : Value) (ps : List (List ByteArray)) : Prop where
  is : ∃ p cap, v = .slice p ps.length cap ∧ ∀ i (hi : i < ps.length), ∃ b o u, p = some ⟨b, o, none⟩ ∧ A b ∧ Rd w b (o + i * 1) [u] ∧ SlS A w u ps[i]
  small : ps.length ≤ maxLen
  zero : ∀ p n c, v = .slice p n c → p = none → c = 0
theorem SlsAt.ext {A F : Nat → Prop} {w w' : World} {v : Value} {ps : List (List ByteArray)} (h : SlsAt A w v ps) (hx : Ext F w w') (hn : ∀ b, A b → ¬ F b) : SlsAt A w' v ps := by
  obtain ⟨p, cap, h1, h2⟩ := h.is
  refine ⟨⟨p, cap, h1, fun i hi => ?_⟩, h.small, h.zero⟩
  obtain ⟨b, o, u, e1, e2, e3, e4⟩ := h2 i hi
  exact ⟨b, o, u, e1, e2, e3.ext hx (hn b e2), e4.ext hx hn⟩
theorem SlsAt.ex {A : Nat → Prop} {w w' : World} {v : Value} {ps : List (List ByteArray)} (h : SlsAt A w v ps) (hx : Ex w w') : SlsAt A w' v ps := h.ext hx fun _ _ f => f
theorem flat_take {ps : List (List ByteArray)} {i : Nat} (hi : i < ps.length) : (ps.take (i + 1)).flatten = (ps.take i).flatten ++ ps[i] := by
  rw [List.take_succ_eq_append_getElem hi, List.flatten_append]; simp
theorem flat_le (ps : List (List ByteArray)) (i : Nat) : (ps.take i).flatten.length ≤ ps.flatten.length := by
  have := congrArg List.flatten (List.take_append_drop i ps)
  rw [List.flatten_append] at this
  rw [← this, List.length_append]; omega
set_option maxHeartbeats 1000000 in
theorem sl_Concat {A : Nat → Prop} {w : World} {v : Value} {ps : List (List ByteArray)} (hS : SlsAt A w v ps) (hb : ps.flatten.length * 16 ≤ 140737488355328) :
    Ret Tryz.prog 91 [v] w fun u w' => w'.ownsRow w.heap.size 9 1 u ps.flatten.length (ps.flatten.map Value.string) ∧ Ex w w' := by
  obtain ⟨p, cap, rfl, hrow⟩ := hS.is
  have hsm := hS.small
  unfold maxLen at hsm
  refine ret_of Tryz.func91 Tryz.ntmps91 rfl rfl rfl ?_
  (repeat (first | refine lw_pure hT rfl ?_ | refine lw_nil ?_ | refine cw_seq ?_ | refine cw_region ?_ | refine qw_then ?_ | refine cw_block ?_))
  refine cw_loop (fun i : Nat => [(0, .slice p ps.length cap), (3, .int .i64 ((ps.take i).flatten.length : Nat)), (9, .slice p ps.length cap), (10, .int .i64 (ps.length : Nat)), (11, .int .i64 (i : Nat))]) (fun i w' => i ≤ ps.length ∧ Ex w w') (fun i => ps.length - i) 0 (by repeat (first | exact trivial | refine ⟨rfl, ?_⟩)) ⟨Nat.zero_le _, Ext.refl _ _⟩ ?_
  rintro i w1 ⟨hi, hx1⟩
  have hfl := flat_le ps i
  (repeat (first | refine lw_pure hT rfl ?_ | refine lw_nil ?_ | refine cw_seq ?_ | refine cw_region ?_ | refine qw_then ?_))
  refine cw_cond rfl (fun e => ?_) (fun e => ?_)
  · have hlt : i < ps.length := by have := of_decide_eq_true e; omega
    obtain ⟨b, o, u, rfl, _, hrd, hu⟩ := hrow i hlt
    obtain ⟨a2, c2, rfl, _, _⟩ := hu.is
    have hfl2 := flat_le ps (i + 1)
    rw [flat_take hlt, List.length_append] at hfl2
    simp only [List.length_map] at *
    (repeat (first | refine cw_seq ?_ | refine cw_region ?_ | refine qw_then ?_ | refine cw_skip ?_ | refine cw_block ?_))
    refine lw_index hT rfl rfl rfl i rfl hlt ?_
    skip
    refine lw_load hT rfl rfl (v := .slice a2 ps[i].length c2) ((hrd.ex hx1) 0 _ rfl) ?_
    (repeat (first | (refine lw_add rfl rfl ?_ ?_ ?_; iterate 2 omega) | refine lw_pure hT rfl ?_ | refine lw_nil ?_ | refine cw_seq ?_ | refine cw_region ?_ | refine qw_then ?_))
    refine cw_cond rfl (fun e => by have := of_decide_eq_true e; omega) (fun _ => ?_)
    have es : (((ps.take i).flatten.length : Nat) : Int) + ((ps[i].length : Nat) : Int) = (((ps.take (i + 1)).flatten.length : Nat) : Int) := by rw [flat_take hlt, List.length_append]; omega
    rw [es]
    (repeat (first | (refine lw_add rfl rfl ?_ ?_ ?_; iterate 2 omega) | refine lw_pure hT rfl ?_ | refine lw_nil ?_ | refine cw_region ?_ | refine qw_then ?_ | refine cw_skip ?_ | refine qw_block ?_))
    exact qw_round (i + 1) (by repeat (first | exact trivial | refine ⟨rfl, ?_⟩)) ⟨hlt, hx1⟩ (by omega)
  · have hil : i = ps.length := by have := of_decide_eq_false e; omega
    subst hil
    rw [List.take_length]
    (repeat (first | refine lw_pure hT rfl ?_ | refine cw_seq ?_ | refine cw_region ?_ | refine qw_then ?_ | refine cw_exit ?_ | refine qw_block_exit ?_ | refine qw_then_exit ?_))
    refine lw_call hT rfl rfl (sl_Grow w1 hb) ?_
    rintro v2 w2 ⟨hown, hx2⟩
    have hx02 := hx1.trans hx2
    (repeat (first | refine lw_pure hT rfl ?_ | refine lw_nil ?_ | refine cw_seq ?_ | refine cw_region ?_ | refine qw_then ?_ | refine cw_block ?_))
    refine cw_loop (fun z : Nat × Value => [(6, z.2), (25, .slice p ps.length cap), (26, .int .i64 (ps.length : Nat)), (27, .int .i64 (z.1 : Nat))])
      (fun z w' => z.1 ≤ ps.length ∧ Ex w w' ∧ w'.ownsRow w.heap.size 9 1 z.2 (ps.take z.1).flatten.length ((ps.take z.1).flatten.map Value.string)) (fun z => ps.length - z.1) (0, v2) (by repeat (first | exact trivial | refine ⟨rfl, ?_⟩)) ⟨Nat.zero_le _, hx02, own_mono hown hx1.size⟩ ?_
    rintro ⟨j, v3⟩ w3 ⟨hj, hx3, hown3⟩
    dsimp only at hj hown3 ⊢
    have hfl := flat_le ps j
    (repeat (first | refine lw_pure hT rfl ?_ | refine lw_nil ?_ | refine cw_seq ?_ | refine cw_region ?_ | refine qw_then ?_))
    refine cw_cond rfl (fun e => ?_) (fun e => ?_)
    · have hlt : j < ps.length := by have := of_decide_eq_true e; omega
      obtain ⟨b, o, u, rfl, _, hrd, hu⟩ := hrow j hlt
      have hfl2 := flat_le ps (j + 1)
      rw [flat_take hlt, List.length_append] at hfl2
      (repeat (first | refine cw_seq ?_ | refine cw_region ?_ | refine qw_then ?_ | refine cw_skip ?_ | refine cw_block ?_))
      refine lw_index hT rfl rfl rfl j rfl hlt ?_
      skip
      refine lw_load hT rfl rfl (v := u) ((hrd.ex hx3) 0 _ rfl) ?_
      (repeat (first | refine lw_pure hT rfl ?_ | refine lw_nil ?_ | refine cw_region ?_ | refine qw_then ?_))
      refine lw_append_sl sl31 (by decide) rfl hown3 rfl (hu.ex hx3) (by intro r hr x hx; simp at hr; obtain ⟨y, _, rfl⟩ := hr; simp at hx; subst hx; rfl) (by unfold maxLen; simp only [List.length_map]; omega) (by simp only [List.length_map]; omega) hx3.size ?_
      intro v4 w4 k1 k2 k3 k4
      (repeat (first | (refine lw_add rfl rfl ?_ ?_ ?_; iterate 2 omega) | refine lw_pure hT rfl ?_ | refine lw_nil ?_ | refine cw_region ?_ | refine qw_then ?_ | refine qw_block ?_))
      refine qw_round (x := (j, v3)) (j + 1, v4) (by repeat (first | exact trivial | refine ⟨rfl, ?_⟩)) ⟨hlt, hx3.up_new k2 (fun k hk => (own_base hown3 hk.symm).1), ?_⟩ (by show ps.length - (j + 1) < ps.length - j; omega)
      rw [flat_take hlt]
      simp only [List.length_map] at k1
      rw [List.length_append, List.map_append]
      have ef : (ps[j].map fun s => [Value.string s]).flatten = ps[j].map Value.string := by induction ps[j] with
        | nil => rfl
        | cons x l ih => simp [ih]
      rw [ef] at k1
      exact k1
    · have hjl : j = ps.length := by have := of_decide_eq_false e; omega
      subst hjl
      rw [List.take_length] at hown3
      (repeat (first | refine lw_pure hT rfl ?_ | refine lw_nil ?_ | refine cw_seq ?_ | refine cw_region ?_ | refine qw_then ?_ | refine cw_ret ?_ | refine cw_exit ?_ | refine qw_block_exit ?_ | refine qw_then_exit ?_))
      exact qw_ret rfl ⟨hown3, hx3⟩
end Go.Proofs.YtnglkhnfmbnfeaaGreat

/- Shp -/
namespace Go.Proofs
open Go.Shelf
def Tryz.keys49_ren : Go.Shelf.Ren := ⟨fun | 7 => 49 | 10 => 97 | n => n, fun | 23 => 78 | 26 => 9 | 3 => 76 | 28 => 106 | 0 => 0 | 27 => 105 | 33 => 91 | 4 => 4 | n => n, fun | n => n⟩
theorem Tryz.keys49 : Go.Proofs.SlLaysZ.n7 Tryz.prog Tryz.keys49_ren := {
  mixed := by kernel_rfl
  f7 := ⟨Tryz.f49.name, by decide, Tryz.func49.trans (congrArg some (by kernel_rfl))⟩
  f10 := ⟨Tryz.f97.name, by decide, Tryz.func97.trans (congrArg some (by kernel_rfl))⟩
  t0 := Tryz.underlying0
  a0 := Tryz.isAgg0
  z0 := Tryz.sizeOf0
  v0 := Tryz.zeroValue0
  t4 := Tryz.underlying4
  a4 := Tryz.isAgg4
  z4 := Tryz.sizeOf4
  v4 := Tryz.zeroValue4
  t23 := Tryz.underlying78
  a23 := Tryz.isAgg78
  z23 := Tryz.sizeOf78
  v23 := Tryz.zeroValue78
  t26 := Tryz.underlying9
  a26 := Tryz.isAgg9
  z26 := Tryz.sizeOf9
  v26 := Tryz.zeroValue9
  t27 := Tryz.underlying105
  a27 := Tryz.isAgg105
  z27 := Tryz.sizeOf105
  v27 := Tryz.zeroValue105
  t28 := Tryz.underlying106
  a28 := Tryz.isAgg106
  z28 := Tryz.sizeOf106
  v28 := Tryz.zeroValue106
  t33 := Tryz.underlying91
  a33 := Tryz.isAgg91
  z33 := Tryz.sizeOf91
  v33 := Tryz.zeroValue91 }
def Tryz.sorted48_ren : Go.Shelf.Ren := ⟨fun | 6 => 48 | 8 => 95 | 9 => 96 | 11 => 134 | 13 => 136 | 12 => 135 | 23 => 156 | 24 => 157 | 14 => 147 | 15 => 148 | 16 => 149 | 17 => 150 | 18 => 151 | 19 => 152 | 20 => 153 | 21 => 154 | 22 => 155 | 25 => 164 | 26 => 165 | 27 => 166 | 28 => 167 | 29 => 168 | 30 => 169 | 31 => 172 | n => n, fun | 26 => 9 | 28 => 106 | 24 => 31 | 0 => 0 | 3 => 3 | 37 => 184 | 48 => 201 | 50 => 203 | 4 => 4 | 40 => 194 | 39 => 193 | 45 => 198 | 5 => 5 | 9 => 9 | 51 => 206 | 55 => 210 | 57 => 214 | 58 => 215 | 33 => 91 | n => n, fun | n => n⟩
theorem Tryz.sorted48 : Go.Proofs.SlLaysZ.n6 Tryz.prog Tryz.sorted48_ren := {
  mixed := by kernel_rfl
  f6 := ⟨Tryz.f48.name, by decide, Tryz.func48.trans (congrArg some (by kernel_rfl))⟩
  f8 := ⟨Tryz.f95.name, by decide, Tryz.func95.trans (congrArg some (by kernel_rfl))⟩
  f11 := ⟨Tryz.f134.name, by decide, Tryz.func134.trans (congrArg some (by kernel_rfl))⟩
  t0 := Tryz.underlying0
  a0 := Tryz.isAgg0
  z0 := Tryz.sizeOf0
  v0 := Tryz.zeroValue0
  t24 := Tryz.underlying31
  a24 := Tryz.isAgg31
  z24 := Tryz.sizeOf31
  v24 := Tryz.zeroValue31
  t26 := Tryz.underlying9
  a26 := Tryz.isAgg9
  z26 := Tryz.sizeOf9
  v26 := Tryz.zeroValue9
  t28 := Tryz.underlying106
  a28 := Tryz.isAgg106
  z28 := Tryz.sizeOf106
  v28 := Tryz.zeroValue106
  i26 := by kernel_rfl }
def Tryz.sort96_ren : Go.Shelf.Ren := ⟨fun | 6 => 96 | 8 => 136 | 9 => 135 | 19 => 156 | 20 => 157 | 21 => 147 | 22 => 148 | 23 => 149 | 24 => 150 | 25 => 151 | 26 => 152 | 27 => 153 | 28 => 154 | 29 => 155 | 36 => 164 | 31 => 165 | 32 => 166 | 37 => 167 | 38 => 168 | 39 => 169 | 41 => 172 | n => n, fun | 27 => 31 | 29 => 9 | 3 => 3 | 32 => 184 | 26 => 31 | 0 => 0 | 44 => 201 | 46 => 203 | 4 => 4 | 36 => 194 | 35 => 193 | 41 => 198 | 5 => 5 | 9 => 9 | 53 => 206 | 57 => 210 | 63 => 214 | 64 => 215 | n => n, fun | n => n⟩
theorem Tryz.sort96 : Go.Proofs.SlLaysM.n6 Tryz.prog Tryz.sort96_ren := {
  mixed := by kernel_rfl
  f6 := ⟨Tryz.f96.name, by decide, Tryz.func96.trans (congrArg some (by kernel_rfl))⟩
  f8 := Tryz.func136.trans (congrArg some (by kernel_rfl))
  f9 := ⟨Tryz.f135.name, by decide, Tryz.func135.trans (congrArg some (by kernel_rfl))⟩
  f19 := Tryz.func156.trans (congrArg some (by kernel_rfl))
  f20 := Tryz.func157.trans (congrArg some (by kernel_rfl))
  f21 := ⟨Tryz.f147.name, by decide, Tryz.func147.trans (congrArg some (by kernel_rfl))⟩
  f22 := ⟨Tryz.f148.name, by decide, Tryz.func148.trans (congrArg some (by kernel_rfl))⟩
  f23 := ⟨Tryz.f149.name, by decide, Tryz.func149.trans (congrArg some (by kernel_rfl))⟩
  f24 := ⟨Tryz.f150.name, by decide, Tryz.func150.trans (congrArg some (by kernel_rfl))⟩
  f25 := ⟨Tryz.f151.name, by decide, Tryz.func151.trans (congrArg some (by kernel_rfl))⟩
  f26 := ⟨Tryz.f152.name, by decide, Tryz.func152.trans (congrArg some (by kernel_rfl))⟩
  f27 := ⟨Tryz.f153.name, by decide, Tryz.func153.trans (congrArg some (by kernel_rfl))⟩
  f28 := ⟨Tryz.f154.name, by decide, Tryz.func154.trans (congrArg some (by kernel_rfl))⟩
  f29 := ⟨Tryz.f155.name, by decide, Tryz.func155.trans (congrArg some (by kernel_rfl))⟩
  f31 := Tryz.func165.trans (congrArg some (by kernel_rfl))
  f32 := Tryz.func166.trans (congrArg some (by kernel_rfl))
  f36 := ⟨Tryz.f164.name, by decide, Tryz.func164.trans (congrArg some (by kernel_rfl))⟩
  f37 := ⟨Tryz.f167.name, by decide, Tryz.func167.trans (congrArg some (by kernel_rfl))⟩
  f38 := ⟨Tryz.f168.name, by decide, Tryz.func168.trans (congrArg some (by kernel_rfl))⟩
  f39 := ⟨Tryz.f169.name, by decide, Tryz.func169.trans (congrArg some (by kernel_rfl))⟩
  f41 := ⟨Tryz.f172.name, by decide, Tryz.func172.trans (congrArg some (by kernel_rfl))⟩
  t0 := Tryz.underlying0
  a0 := Tryz.isAgg0
  z0 := Tryz.sizeOf0
  v0 := Tryz.zeroValue0
  t3 := Tryz.underlying3
  a3 := Tryz.isAgg3
  z3 := Tryz.sizeOf3
  v3 := Tryz.zeroValue3
  t4 := Tryz.underlying4
  a4 := Tryz.isAgg4
  z4 := Tryz.sizeOf4
  v4 := Tryz.zeroValue4
  t5 := Tryz.underlying5
  a5 := Tryz.isAgg5
  z5 := Tryz.sizeOf5
  v5 := Tryz.zeroValue5
  t9 := Tryz.underlying9
  a9 := Tryz.isAgg9
  z9 := Tryz.sizeOf9
  v9 := Tryz.zeroValue9
  t26 := Tryz.underlying31
  a26 := Tryz.isAgg31
  z26 := Tryz.sizeOf31
  v26 := Tryz.zeroValue31
  t27 := Tryz.underlying31
  a27 := Tryz.isAgg31
  z27 := Tryz.sizeOf31
  v27 := Tryz.zeroValue31
  t29 := Tryz.underlying9
  a29 := Tryz.isAgg9
  z29 := Tryz.sizeOf9
  v29 := Tryz.zeroValue9
  t32 := Tryz.underlying184
  a32 := Tryz.isAgg184
  z32 := Tryz.sizeOf184
  v32 := Tryz.zeroValue184
  t35 := Tryz.underlying193
  a35 := Tryz.isAgg193
  z35 := Tryz.sizeOf193
  v35 := Tryz.zeroValue193
  t36 := Tryz.underlying194
  a36 := Tryz.isAgg194
  z36 := Tryz.sizeOf194
  v36 := Tryz.zeroValue194
  t41 := Tryz.underlying198
  a41 := Tryz.isAgg198
  z41 := Tryz.sizeOf198
  v41 := Tryz.zeroValue198
  t44 := Tryz.underlying201
  a44 := Tryz.isAgg201
  z44 := Tryz.sizeOf201
  v44 := Tryz.zeroValue201
  t46 := Tryz.underlying203
  a46 := Tryz.isAgg203
  z46 := Tryz.sizeOf203
  v46 := Tryz.zeroValue203
  t53 := Tryz.underlying206
  a53 := Tryz.isAgg206
  z53 := Tryz.sizeOf206
  v53 := Tryz.zeroValue206
  t57 := Tryz.underlying210
  a57 := Tryz.isAgg210
  z57 := Tryz.sizeOf210
  v57 := Tryz.zeroValue210
  t63 := Tryz.underlying214
  a63 := Tryz.isAgg214
  z63 := Tryz.sizeOf214
  v63 := Tryz.zeroValue214
  t64 := Tryz.underlying215
  a64 := Tryz.isAgg215
  z64 := Tryz.sizeOf215
  v64 := Tryz.zeroValue215 }
def Tryz.keys54_ren : Go.Shelf.Ren := ⟨fun | 7 => 54 | 10 => 102 | n => n, fun | 23 => 111 | 26 => 9 | 3 => 4 | 28 => 106 | 0 => 0 | 27 => 105 | 33 => 91 | 4 => 4 | n => n, fun | n => n⟩
theorem Tryz.keys54 : Go.Proofs.SlLaysZ.n7 Tryz.prog Tryz.keys54_ren := {
  mixed := by kernel_rfl
  f7 := ⟨Tryz.f54.name, by decide, Tryz.func54.trans (congrArg some (by kernel_rfl))⟩
  f10 := ⟨Tryz.f102.name, by decide, Tryz.func102.trans (congrArg some (by kernel_rfl))⟩
  t0 := Tryz.underlying0
  a0 := Tryz.isAgg0
  z0 := Tryz.sizeOf0
  v0 := Tryz.zeroValue0
  t4 := Tryz.underlying4
  a4 := Tryz.isAgg4
  z4 := Tryz.sizeOf4
  v4 := Tryz.zeroValue4
  t23 := Tryz.underlying111
  a23 := Tryz.isAgg111
  z23 := Tryz.sizeOf111
  v23 := Tryz.zeroValue111
  t26 := Tryz.underlying9
  a26 := Tryz.isAgg9
  z26 := Tryz.sizeOf9
  v26 := Tryz.zeroValue9
  t27 := Tryz.underlying105
  a27 := Tryz.isAgg105
  z27 := Tryz.sizeOf105
  v27 := Tryz.zeroValue105
  t28 := Tryz.underlying106
  a28 := Tryz.isAgg106
  z28 := Tryz.sizeOf106
  v28 := Tryz.zeroValue106
  t33 := Tryz.underlying91
  a33 := Tryz.isAgg91
  z33 := Tryz.sizeOf91
  v33 := Tryz.zeroValue91 }
end Go.Proofs

/- Gh -/
namespace Go.SK
open Go
attribute [local semireducible] CW LW QW Ret Kn
section
variable {P : Program} {T : Tab} {n : Nat} {fr : Fr} {w : World} {Q : Exit → Act → World → Prop} {ops : Array Oper} {rest : List Oper} {S : World → Prop}
/-- A field of one cell, a text or a whole number. -/
def PlainAt (P : Program) (xs : List Value) (t o : Nat) : Prop := (P.underlying t = some .string ∧ ∃ s, xs[o]? = some (.string s)) ∨ (P.underlying t = some (.int .i64) ∧ ∃ i, xs[o]? = some (.int .i64 i))
theorem eqFields_same {d : Nat} {xs : List Value} : ∀ (fs : List Field) (ks : List (Bool × Nat × Nat)), fs.map (fun f => (f.name == "_", f.type, f.offset)) = ks → (∀ k ∈ ks, k.1 = false ∧ PlainAt P xs k.2.1 k.2.2) → ∀ w, (Op.eqFields (d + 1) ⟨xs⟩ ⟨xs⟩ fs).run P w = .ok true w
  | [], _, _, _, w => by simp [Op.eqFields]
  | f :: fs, ks, h, hp, w => by
    subst h
    have ih := eqFields_same (d := d) (xs := xs) fs _ rfl (fun k hk => hp k (List.mem_cons_of_mem _ hk)) w
    obtain ⟨h1, h2⟩ := hp _ List.mem_cons_self
    dsimp only at h1 h2
    have hn : f.name ≠ "_" := by simpa using h1
    rw [Op.eqFields, if_pos hn]
    rcases h2 with ⟨hu, s, hx⟩ | ⟨hu, i, hx⟩
    · have hag : (isAgg f.type).run P w = .ok false w := by unfold isAgg; simp [run_underlying hu]
      have hpt : (part f.type ⟨xs⟩ f.offset).run P w = .ok (.string s) w := by simp [part, hag, hx]
      have he := run_equalIn_string (P := P) w d f.type s s hu
      simp only [Sem.run_bind, hpt, Result.andThen_ok, he]
      simpa using ih
    · have hag : (isAgg f.type).run P w = .ok false w := by unfold isAgg; simp [run_underlying hu]
      have hpt : (part f.type ⟨xs⟩ f.offset).run P w = .ok (.int .i64 i) w := by simp [part, hag, hx]
      have he := run_equalIn_int (P := P) w d f.type .i64 .i64 i i hu
      simp only [Sem.run_bind, hpt, Result.andThen_ok, he]
      simpa using ih
/-- A struct's value is equal to itself. -/
def SelfEq (P : Program) (t : Nat) (xs : List Value) : Prop := (∀ w, (Op.equal t (.agg ⟨xs⟩) (.agg ⟨xs⟩)).run P w = .ok true w) ∧ P.eqGuardType P.depth t = false
theorem equalIn_same (d : Nat) {t : Nat} {xs : List Value} {ks : List (Bool × Nat × Nat)} (ht : P.underlying t = some (.struct (P.fieldsOf t))) (hp : P.stoodInHeld t = false) (hk : (P.fieldsOf t).toList.map (fun f => (f.name == "_", f.type, f.offset)) = ks)
    (hs : ∀ k ∈ ks, k.1 = false ∧ PlainAt P xs k.2.1 k.2.2) : (Op.equalIn (d + 1 + 1) t (.agg ⟨xs⟩) (.agg ⟨xs⟩)).run P w = .ok true w := by
  rw [run_equalIn_struct w (d + 1) t _ _ ht hp]
  exact eqFields_same _ ks hk hs w
theorem selfEq {t : Nat} {xs : List Value} {ks : List (Bool × Nat × Nat)} (ht : P.underlying t = some (.struct (P.fieldsOf t))) (hp : P.stoodInHeld t = false) (hg : P.eqGuardType P.depth t = false) (hk : (P.fieldsOf t).toList.map (fun f => (f.name == "_", f.type, f.offset)) = ks)
    (hs : ∀ k ∈ ks, k.1 = false ∧ PlainAt P xs k.2.1 k.2.2) : SelfEq P t xs := ⟨fun _ => equalIn_same 9998 ht hp hk hs, hg⟩
theorem run_neq_same {t : Nat} {xs : List Value} (h : SelfEq P t xs) (x y : Operand) (w : World) : (do eqGuard .neq t x y (.agg ⟨xs⟩) (.agg ⟨xs⟩); binOp .neq t (.agg ⟨xs⟩) (.agg ⟨xs⟩) : Sem Value).run P w = .ok (.bool false) w := by
  have hb : (binOp .neq t (.agg ⟨xs⟩) (.agg ⟨xs⟩)).run P w = .ok (.bool false) w := by
    have := h.1 w
    simp only [binOp]
    simp [this]
  simp only [Sem.run_bind, run_eqGuard_agg w .neq t x y _ _ h.2, Result.andThen_ok, hb]
theorem lw_neq_same {d t : Nat} {x y : Operand} {t' : TypeId} {ty : TypeId} {ps : String} {af : Array Edge} {xs : List Value} (hx : ev n fr x = some (.agg ⟨xs⟩)) (hy : ev n fr y = some (.agg ⟨xs⟩)) (h : SelfEq P t xs)
    (k : LW P ops Q rest n ((d, .bool false) :: fr) w) :
    LW P ops Q ({ dst := some d, op := .binOp .neq t x y t', type := ty, pos := ps, after := af, guard := none } :: rest) n fr w := by
  refine lw_run rfl rfl (fun a' hk => ?_) k
  have := run_neq_same h x y w
  simp only [execOp, ev_sound hk hx, ev_sound hk hy]
  rw [Sem.run_bind, this]; rfl
theorem yo_neq_same {d t : Nat} {x y : Operand} {t' : TypeId} {ty : TypeId} {ps : String} {af : Array Edge} {xs : List Value} (hx : ev n fr x = some (.agg ⟨xs⟩)) (hy : ev n fr y = some (.agg ⟨xs⟩)) (h : SelfEq P t xs) :
    YO P ops S n fr { dst := some d, op := .binOp .neq t x y t', type := ty, pos := ps, after := af, guard := none } (.bool false) :=
  yo_run rfl fun a' hk w _ => by
    have := run_neq_same h x y w
    simp only [execOp, ev_sound hk hx, ev_sound hk hy]
    rw [Sem.run_bind, this]; rfl
end
end Go.SK
namespace Go.Proofs.YtnglkhnfmbnfeaaGreat
open Go Go.SK
theorem end_self (x : EndD) : SelfEq Tryz.prog 139 (encE x) :=
  selfEq (ks := [(false, 9, 0), (false, 9, 1), (false, 3, 2), (false, 3, 3)]) (by kernel_rfl) (by kernel_rfl) (by kernel_rfl) (by kernel_rfl) (by
    have us : Tryz.prog.underlying 9 = some .string := by kernel_rfl
    have ui : Tryz.prog.underlying 3 = some (.int .i64) := by kernel_rfl
    intro k hk
    simp at hk
    rcases hk with rfl | rfl | rfl | rfl
    · exact ⟨rfl, .inl ⟨us, _, rfl⟩⟩
    · exact ⟨rfl, .inl ⟨us, _, rfl⟩⟩
    · exact ⟨rfl, .inr ⟨ui, _, rfl⟩⟩
    · exact ⟨rfl, .inr ⟨ui, _, rfl⟩⟩)
theorem r23_Chains {A B : Nat → Prop} {va vb : Value} {l : List EndD} (w : World) (hA : SlE A w va l) (hB : SlE B w vb l) : Ret Tryz.prog 68 [va, vb] w fun u w' => u = .bool true ∧ Ex w w' := by
  have hma := hA.small
  obtain ⟨a, ca, rfl, _, hra⟩ := hA.is
  obtain ⟨b, cb, rfl, _, hrb⟩ := hB.is
  simp only [List.length_map] at *
  unfold maxLen at hma
  refine ret_of Tryz.func68 Tryz.ntmps68 rfl rfl rfl ?_
  (repeat (first | refine lw_pure hT rfl ?_ | refine lw_nil ?_ | refine cw_seq ?_ | refine cw_region ?_ | refine qw_then ?_))
  refine cw_cond rfl (fun h => ?_) (fun h => ?_)
  · exfalso; simp at h
  (repeat (first | refine lw_pure hT rfl ?_ | refine lw_nil ?_ | refine cw_seq ?_ | refine cw_region ?_ | refine qw_then ?_ | refine cw_skip ?_ | refine cw_block ?_))
  refine cw_loop (fun i : Nat => [(0, .slice a l.length ca), (1, .slice b l.length cb), (5, .int .i64 (i : Nat))]) (fun i w' => Ex w w' ∧ i ≤ l.length) (fun i => l.length - i) 0 (by repeat (first | exact trivial | refine ⟨rfl, ?_⟩)) ⟨Ext.refl _ _, Nat.zero_le _⟩ ?_
  rintro i w1 ⟨hx1, hi⟩
  (repeat (first | refine lw_pure hT rfl ?_ | refine lw_nil ?_ | refine cw_seq ?_ | refine cw_region ?_ | refine qw_then ?_))
  refine cw_cond rfl (fun h => ?_) (fun h => ?_)
  · have hlt : i < l.length := by simp at h; omega
    have hne : l.map encE ≠ [] := by intro e; simp at e; subst e; simp at hlt
    obtain ⟨ba, oa, rfl, _, hrda⟩ := hra hne
    obtain ⟨bb, ob, rfl, _, hrdb⟩ := hrb hne
    have ra := (hrda i (encE l[i]) (by simp [hlt])).2.ex hx1
    have rb := (hrdb i (encE l[i]) (by simp [hlt])).2.ex hx1
    (repeat (first | refine cw_seq ?_ | refine qw_then ?_ | refine cw_skip ?_ | refine cw_block ?_))
    refine cw_draw hM (fun w' => Ex w1 w') [] rfl rfl (by repeat (first | with_reducible refine nop_then ?_ | with_reducible refine nop_block ?_ | with_reducible exact nop_body)) (fun w2 hx2 _ => ⟨hx2, ?_⟩)
    (refine rw_takeP 0 rfl rfl (by kernel_rfl) (by kernel_rfl) (by kernel_rfl) (by kernel_rfl) rfl (yo_pure hT rfl) ?_; refine rw_takeP 1 rfl rfl (by kernel_rfl) (by kernel_rfl) (by kernel_rfl) (by kernel_rfl) rfl (yo_pure hT rfl) ?_)
    refine rw_takeP 2 rfl rfl (by kernel_rfl) (by kernel_rfl) (by kernel_rfl) (by kernel_rfl) rfl (yo_index hT rfl rfl rfl i rfl hlt) ?_
    refine rw_take 3 rfl rfl (by kernel_rfl) (by kernel_rfl) (by kernel_rfl) (by kernel_rfl) rfl (yo_load_agg hT rfl rfl rfl (vs := encE l[i]) (fun w' hS => ra.ex hS)) ?_
    (refine rw_takeP 4 rfl rfl (by kernel_rfl) (by kernel_rfl) (by kernel_rfl) (by kernel_rfl) rfl (yo_pure hT rfl) ?_; refine rw_takeP 5 rfl rfl (by kernel_rfl) (by kernel_rfl) (by kernel_rfl) (by kernel_rfl) rfl (yo_pure hT rfl) ?_)
    refine rw_takeP 6 rfl rfl (by kernel_rfl) (by kernel_rfl) (by kernel_rfl) (by kernel_rfl) rfl (yo_index hT rfl rfl rfl i rfl hlt) ?_
    refine rw_take 7 rfl rfl (by kernel_rfl) (by kernel_rfl) (by kernel_rfl) (by kernel_rfl) rfl (yo_load_agg hT rfl rfl rfl (vs := encE l[i]) (fun w' hS => rb.ex hS)) ?_
    refine rw_takeP 8 rfl rfl (by kernel_rfl) (by kernel_rfl) (by kernel_rfl) (by kernel_rfl) rfl (yo_neq_same rfl rfl (end_self l[i])) ?_
    refine rw_done (by kernel_rfl) ?_
    (repeat (first | (refine lw_add rfl rfl ?_ ?_ ?_; iterate 2 omega) | refine lw_pure hT rfl ?_ | refine lw_nil ?_ | refine cw_region ?_ | refine qw_then ?_ | refine cw_skip ?_ | refine qw_block ?_ | (refine cw_cond_f rfl ?_ ?_; focus (first | with_reducible rfl | with_reducible exact Bool.not_false | with_reducible exact Bool.not_true))))
    refine qw_round (i + 1) (by repeat (first | exact trivial | refine ⟨rfl, ?_⟩)) ⟨hx1.trans hx2, hlt⟩ (by omega)
  · have : i = l.length := by simp at h; omega
    subst this
    (repeat (first | refine lw_pure hT rfl ?_ | refine lw_nil ?_ | refine cw_seq ?_ | refine cw_region ?_ | refine qw_then ?_ | refine cw_ret ?_ | refine cw_exit ?_ | refine qw_block_exit ?_ | refine qw_then_exit ?_))
    exact qw_ret rfl ⟨rfl, hx1⟩
end Go.Proofs.YtnglkhnfmbnfeaaGreat

/- Gj -/
namespace Go.Proofs.YtnglkhnfmbnfeaaGreat
open Go Go.SK

/-- Go's '<' on texts. -/
def ltB (x y : ByteArray) : Bool := Op.bytesLess x.toList y.toList
theorem ltB_iff {x y : ByteArray} : ltB x y = true ↔ x.toList < y.toList := by unfold ltB; rw [bytesLess_eq]; simp
theorem ltB_trans {x y z : ByteArray} (h1 : ltB x y = true) (h2 : ltB y z = true) : ltB x z = true := by rw [ltB_iff] at *; exact List.lt_trans h1 h2
theorem ltB_irrefl (x : ByteArray) : ltB x x = false := by
  cases h : ltB x x with
  | false => rfl
  | true => rw [ltB_iff] at h; exact absurd h (List.lt_irrefl _)
theorem ltB_asymm {x y : ByteArray} (h1 : ltB x y = true) (h2 : ltB y x = true) : x = y := by
  rw [ltB_iff] at *
  exact absurd (List.lt_trans h1 h2) (List.lt_irrefl _)
theorem ltB_total {x y : ByteArray} (h : ltB x y = false) (hne : x ≠ y) : ltB y x = true := by
  rw [ltB_iff]
  have h1 : ¬ x.toList < y.toList := fun h' => by rw [ltB_iff.2 h'] at h; cases h
  have h2 : y.toList ≤ x.toList := List.not_lt.1 h1
  rcases List.le_iff_lt_or_eq.1 h2 with h3 | h3
  · exact h3
  · exact absurd (bytes_eq.1 h3.symm) hne
def Rising (l : List ByteArray) : Prop := l.Pairwise fun x y => ltB x y = true
theorem Rising.eq {l l' : List ByteArray} (h : Rising l) (h' : Rising l') (hp : l.Perm l') : l = l' :=
  List.Perm.eq_of_pairwise (le := fun x y => ltB x y = true) (fun _ _ _ _ h1 h2 => ltB_asymm h1 h2) h h' hp
theorem Rising.filter {l : List ByteArray} (h : Rising l) (p : ByteArray → Bool) : Rising (l.filter p) := List.Pairwise.filter p h
def putL (l : List ByteArray) (s : ByteArray) : List ByteArray := l.takeWhile (fun y => ltB y s) ++ s :: l.dropWhile (fun y => ltB y s)
theorem putL_at {l : List ByteArray} {s : ByteArray} {k : Nat} (hk : k ≤ l.length) (h1 : ∀ j (hj : j < l.length), j < k → ltB l[j] s = true) (h2 : ∀ hj : k < l.length, ltB l[k] s = false) : putL l s = l.take k ++ s :: l.drop k := by
  have key : ∀ (l : List ByteArray) (k : Nat), k ≤ l.length → (∀ j (hj : j < l.length), j < k → ltB l[j] s = true) → (∀ hj : k < l.length, ltB l[k] s = false) → l.takeWhile (fun y => ltB y s) = l.take k ∧ l.dropWhile (fun y => ltB y s) = l.drop k := by
    intro l
    induction l with
    | nil => intro k hk _ _; simp at hk; subst hk; exact ⟨rfl, rfl⟩
    | cons a l ih =>
      intro k hk h1 h2
      cases k with
      | zero =>
        have := h2 (by simp)
        simp only [List.getElem_cons_zero] at this
        simp [this]
      | succ k =>
        have h0 := h1 0 (by simp) (by omega)
        simp only [List.getElem_cons_zero] at h0
        obtain ⟨g1, g2⟩ := ih k (by simpa using hk) (fun j hj hjk => by have := h1 (j + 1) (by simp; omega) (by omega); simpa using this) (fun hj => by have := h2 (by simp; omega); simpa using this)
        simp [h0, g1, g2]
  unfold putL
  obtain ⟨g1, g2⟩ := key l k hk h1 h2
  rw [g1, g2]
theorem putL_perm (l : List ByteArray) (s : ByteArray) : (putL l s).Perm (s :: l) := by
  unfold putL
  have e := List.takeWhile_append_dropWhile (p := fun y => ltB y s) (l := l)
  have h := List.perm_middle (a := s) (l₁ := l.takeWhile (fun y => ltB y s)) (l₂ := l.dropWhile (fun y => ltB y s))
  rwa [e] at h
theorem putL_len (l : List ByteArray) (s : ByteArray) : (putL l s).length = l.length + 1 := by
  have := (putL_perm l s).length_eq
  simpa using this
theorem putL_rising {l : List ByteArray} {s : ByteArray} (h : Rising l) (hs : s ∉ l) : Rising (putL l s) := by
  induction l with
  | nil => exact List.pairwise_singleton _ _
  | cons a l ih =>
    obtain ⟨ha, hl⟩ := List.pairwise_cons.1 h
    have hsa : s ≠ a := fun e => hs (by rw [e]; exact List.mem_cons_self)
    have hsl : s ∉ l := fun e => hs (List.mem_cons_of_mem _ e)
    by_cases e : ltB a s = true
    · have ep : putL (a :: l) s = a :: putL l s := by simp [putL, e]
      rw [ep]
      refine List.pairwise_cons.2 ⟨fun y hy => ?_, ih hl hsl⟩
      rcases List.mem_cons.1 ((putL_perm l s).mem_iff.1 hy) with rfl | hy
      · exact e
      · exact ha y hy
    · have e' : ltB a s = false := by simpa using e
      have ep : putL (a :: l) s = s :: a :: l := by simp [putL, e']
      rw [ep]
      have hsa' := ltB_total e' (fun e => hsa e.symm)
      refine List.pairwise_cons.2 ⟨fun y hy => ?_, h⟩
      rcases List.mem_cons.1 hy with rfl | hy
      · exact hsa'
      · exact ltB_trans hsa' (ha y hy)
/-- Texts put one by one. -/
def putAll (l : List ByteArray) : List ByteArray := l.foldl putL []
theorem putAll_snoc (l : List ByteArray) (s : ByteArray) : putAll (l ++ [s]) = putL (putAll l) s := by simp [putAll]
theorem foldl_perm : ∀ (l acc : List ByteArray), (l.foldl putL acc).Perm (acc ++ l)
  | [], acc => by simp
  | s :: l, acc => by
    have h := foldl_perm l (putL acc s)
    have h2 : (putL acc s ++ l).Perm (acc ++ s :: l) := ((putL_perm acc s).append_right l).trans (by simpa using (List.perm_middle (a := s) (l₁ := acc) (l₂ := l)).symm)
    exact h.trans h2
theorem putAll_perm (l : List ByteArray) : (putAll l).Perm l := by simpa [putAll] using foldl_perm l []
theorem foldl_rising : ∀ (l acc : List ByteArray), Rising acc → (acc ++ l).Nodup → Rising (l.foldl putL acc)
  | [], acc, h, _ => h
  | s :: l, acc, h, hn => by
    have h1 : (s :: (acc ++ l)).Nodup := (List.perm_middle (a := s) (l₁ := acc) (l₂ := l)).nodup_iff.1 hn
    have h2 : s ∉ acc := fun hs => (List.nodup_cons.1 h1).1 (List.mem_append_left _ hs)
    refine foldl_rising l (putL acc s) (putL_rising h h2) ?_
    exact (((putL_perm acc s).append_right l).nodup_iff).2 (by simpa using h1)
theorem putAll_rising {l : List ByteArray} (h : l.Nodup) : Rising (putAll l) := foldl_rising l [] List.Pairwise.nil (by simpa using h)
def RegD.nums (r : RegD) : List ByteArray := r.l.map (·.bill.number)
theorem RegD.Nd.nums {r : RegD} (h : r.Nd) : r.nums.Nodup := by
  unfold RegD.nums List.Nodup
  rw [List.pairwise_iff_getElem]
  intro i j hi hj hij he
  rw [List.length_map] at hi hj
  rw [List.getElem_map, List.getElem_map] at he
  have := h i j _ _ (List.getElem?_eq_getElem hi) (List.getElem?_eq_getElem hj) he
  omega
/-- Does somebody hold a live original of a live bill? -/
def EntD.holds (e : EntD) (who : ByteArray) : Bool := decide (e.state = 0) && e.ps.any fun q => decide (q.state = 0) && decide (q.holder = who)
def RegD.holdsN (r : RegD) (who n : ByteArray) : Bool := match r.at? n with
  | none => false
  | some e => e.holds who
theorem at_self {r : RegD} (h : r.Nd) {e : EntD} (he : e ∈ r.l) : r.at? e.bill.number = some e := by
  cases hat : r.at? e.bill.number with
  | none => exact absurd rfl (at_none hat e he)
  | some x =>
    obtain ⟨hn, i, hi⟩ := at_some hat
    obtain ⟨j, hj⟩ := List.getElem?_of_mem he
    have := h i j x e hi hj hn.symm
    subst this
    rw [hi] at hj; cases hj; rfl
theorem nums_filter {r : RegD} (h : r.Nd) (who : ByteArray) : r.nums.filter (r.holdsN who) = (r.l.filter fun e => e.holds who).map (·.bill.number) := by
  unfold RegD.nums
  rw [List.filter_map]
  congr 1
  apply List.filter_congr
  intro e he
  simp only [Function.comp, RegD.holdsN, at_self h he]
/-- The bills of somebody, by the document and by the program. -/
theorem of_eq {r : RegD} (h : r.Nd) (who : ByteArray) {L : List ByteArray} (hL : Rising L) (hp : L.Perm r.nums) : L.filter (r.holdsN who) = putAll ((r.l.filter fun e => e.holds who).map (·.bill.number)) := by
  refine Rising.eq (hL.filter _) (putAll_rising ?_) ?_
  · rw [← nums_filter h]; exact List.Pairwise.filter _ h.nums
  · rw [← nums_filter h]
    exact (hp.filter _).trans (putAll_perm _).symm
theorem bills_eq {r : RegD} (h : r.Nd) {L : List ByteArray} (hL : Rising L) (hp : L.Perm r.nums) : L = putAll r.nums := Rising.eq hL (putAll_rising h.nums) (hp.trans (putAll_perm _).symm)
end Go.Proofs.YtnglkhnfmbnfeaaGreat
