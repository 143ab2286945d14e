import Derived.Test.YtnglkhnfmbnfeaaGreatMCs4
import Derived.Shelf.SlIter.Nil
import Derived.Shelf.SortM.Plain
import Derived.Shelf.SortM.SortNone
import Derived.Ground.GgzProg
import Derived.Ground.SlgmProg
import Derived.Test.YtnglkhnfmbnfeaaGreatProg
import Derived.Laws.StructEq
import Derived.Sort.Walk0
import Derived.Shelf.SlIter.Sorted
import Derived.LoopIn
import Derived.LoopNIn
set_option linter.unusedVariables false
set_option linter.unusedSimpArgs false
set_option linter.unusedSectionVars false
set_option linter.unnecessarySimpa false
namespace Go.Proofs
open Go.Shelf
def Tryz.sorted48_ren : Go.Shelf.Ren := ⟨fun | 6 => 48 | 8 => 95 | 9 => 96 | 11 => 134 | 13 => 136 | 12 => 135 | 23 => 156 | 24 => 157 | 14 => 147 | 15 => 148 | 16 => 149 | 17 => 150 | 18 => 151 | 19 => 152 | 20 => 153 | 21 => 154 | 22 => 155 | 25 => 164 | 26 => 165 | 27 => 166 | 28 => 167 | 29 => 168 | 30 => 169 | 31 => 172 | n => n, fun | 26 => 9 | 28 => 106 | 24 => 31 | 0 => 0 | 3 => 3 | 37 => 184 | 48 => 201 | 50 => 203 | 4 => 4 | 40 => 194 | 39 => 193 | 45 => 198 | 5 => 5 | 9 => 9 | 51 => 206 | 55 => 210 | 57 => 214 | 58 => 215 | 33 => 91 | n => n, fun | n => n⟩
theorem Tryz.sorted48 : Go.Proofs.SlLaysZ.n6 Tryz.prog Tryz.sorted48_ren := {
  mixed := by kernel_rfl
  f6 := ⟨Tryz.f48.name, by decide, Tryz.func48.trans (congrArg some (by kernel_rfl))⟩
  f8 := ⟨Tryz.f95.name, by decide, Tryz.func95.trans (congrArg some (by kernel_rfl))⟩
  f11 := ⟨Tryz.f134.name, by decide, Tryz.func134.trans (congrArg some (by kernel_rfl))⟩
  t0 := Tryz.underlying0
  a0 := Tryz.isAgg0
  z0 := Tryz.sizeOf0
  v0 := Tryz.zeroValue0
  t24 := Tryz.underlying31
  a24 := Tryz.isAgg31
  z24 := Tryz.sizeOf31
  v24 := Tryz.zeroValue31
  t26 := Tryz.underlying9
  a26 := Tryz.isAgg9
  z26 := Tryz.sizeOf9
  v26 := Tryz.zeroValue9
  t28 := Tryz.underlying106
  a28 := Tryz.isAgg106
  z28 := Tryz.sizeOf106
  v28 := Tryz.zeroValue106
  i26 := by kernel_rfl }
def Tryz.sort96_ren : Go.Shelf.Ren := ⟨fun | 6 => 96 | 8 => 136 | 9 => 135 | 19 => 156 | 20 => 157 | 21 => 147 | 22 => 148 | 23 => 149 | 24 => 150 | 25 => 151 | 26 => 152 | 27 => 153 | 28 => 154 | 29 => 155 | 36 => 164 | 31 => 165 | 32 => 166 | 37 => 167 | 38 => 168 | 39 => 169 | 41 => 172 | n => n, fun | 27 => 31 | 29 => 9 | 3 => 3 | 32 => 184 | 26 => 31 | 0 => 0 | 44 => 201 | 46 => 203 | 4 => 4 | 36 => 194 | 35 => 193 | 41 => 198 | 5 => 5 | 9 => 9 | 53 => 206 | 57 => 210 | 63 => 214 | 64 => 215 | n => n, fun | n => n⟩
theorem Tryz.sort96 : Go.Proofs.SlLaysM.n6 Tryz.prog Tryz.sort96_ren := {
  mixed := by kernel_rfl
  f6 := ⟨Tryz.f96.name, by decide, Tryz.func96.trans (congrArg some (by kernel_rfl))⟩
  f8 := Tryz.func136.trans (congrArg some (by kernel_rfl))
  f9 := ⟨Tryz.f135.name, by decide, Tryz.func135.trans (congrArg some (by kernel_rfl))⟩
  f19 := Tryz.func156.trans (congrArg some (by kernel_rfl))
  f20 := Tryz.func157.trans (congrArg some (by kernel_rfl))
  f21 := ⟨Tryz.f147.name, by decide, Tryz.func147.trans (congrArg some (by kernel_rfl))⟩
  f22 := ⟨Tryz.f148.name, by decide, Tryz.func148.trans (congrArg some (by kernel_rfl))⟩
  f23 := ⟨Tryz.f149.name, by decide, Tryz.func149.trans (congrArg some (by kernel_rfl))⟩
  f24 := ⟨Tryz.f150.name, by decide, Tryz.func150.trans (congrArg some (by kernel_rfl))⟩
  f25 := ⟨Tryz.f151.name, by decide, Tryz.func151.trans (congrArg some (by kernel_rfl))⟩
  f26 := ⟨Tryz.f152.name, by decide, Tryz.func152.trans (congrArg some (by kernel_rfl))⟩
  f27 := ⟨Tryz.f153.name, by decide, Tryz.func153.trans (congrArg some (by kernel_rfl))⟩
  f28 := ⟨Tryz.f154.name, by decide, Tryz.func154.trans (congrArg some (by kernel_rfl))⟩
  f29 := ⟨Tryz.f155.name, by decide, Tryz.func155.trans (congrArg some (by kernel_rfl))⟩
  f31 := Tryz.func165.trans (congrArg some (by kernel_rfl))
  f32 := Tryz.func166.trans (congrArg some (by kernel_rfl))
  f36 := ⟨Tryz.f164.name, by decide, Tryz.func164.trans (congrArg some (by kernel_rfl))⟩
  f37 := ⟨Tryz.f167.name, by decide, Tryz.func167.trans (congrArg some (by kernel_rfl))⟩
  f38 := ⟨Tryz.f168.name, by decide, Tryz.func168.trans (congrArg some (by kernel_rfl))⟩
  f39 := ⟨Tryz.f169.name, by decide, Tryz.func169.trans (congrArg some (by kernel_rfl))⟩
  f41 := ⟨Tryz.f172.name, by decide, Tryz.func172.trans (congrArg some (by kernel_rfl))⟩
  t0 := Tryz.underlying0
  a0 := Tryz.isAgg0
  z0 := Tryz.sizeOf0
  v0 := Tryz.zeroValue0
  t3 := Tryz.underlying3
  a3 := Tryz.isAgg3
  z3 := Tryz.sizeOf3
  v3 := Tryz.zeroValue3
  t4 := Tryz.underlying4
  a4 := Tryz.isAgg4
  z4 := Tryz.sizeOf4
  v4 := Tryz.zeroValue4
  t5 := Tryz.underlying5
  a5 := Tryz.isAgg5
  z5 := Tryz.sizeOf5
  v5 := Tryz.zeroValue5
  t9 := Tryz.underlying9
  a9 := Tryz.isAgg9
  z9 := Tryz.sizeOf9
  v9 := Tryz.zeroValue9
  t26 := Tryz.underlying31
  a26 := Tryz.isAgg31
  z26 := Tryz.sizeOf31
  v26 := Tryz.zeroValue31
  t27 := Tryz.underlying31
  a27 := Tryz.isAgg31
  z27 := Tryz.sizeOf31
  v27 := Tryz.zeroValue31
  t29 := Tryz.underlying9
  a29 := Tryz.isAgg9
  z29 := Tryz.sizeOf9
  v29 := Tryz.zeroValue9
  t32 := Tryz.underlying184
  a32 := Tryz.isAgg184
  z32 := Tryz.sizeOf184
  v32 := Tryz.zeroValue184
  t35 := Tryz.underlying193
  a35 := Tryz.isAgg193
  z35 := Tryz.sizeOf193
  v35 := Tryz.zeroValue193
  t36 := Tryz.underlying194
  a36 := Tryz.isAgg194
  z36 := Tryz.sizeOf194
  v36 := Tryz.zeroValue194
  t41 := Tryz.underlying198
  a41 := Tryz.isAgg198
  z41 := Tryz.sizeOf198
  v41 := Tryz.zeroValue198
  t44 := Tryz.underlying201
  a44 := Tryz.isAgg201
  z44 := Tryz.sizeOf201
  v44 := Tryz.zeroValue201
  t46 := Tryz.underlying203
  a46 := Tryz.isAgg203
  z46 := Tryz.sizeOf203
  v46 := Tryz.zeroValue203
  t53 := Tryz.underlying206
  a53 := Tryz.isAgg206
  z53 := Tryz.sizeOf206
  v53 := Tryz.zeroValue206
  t57 := Tryz.underlying210
  a57 := Tryz.isAgg210
  z57 := Tryz.sizeOf210
  v57 := Tryz.zeroValue210
  t63 := Tryz.underlying214
  a63 := Tryz.isAgg214
  z63 := Tryz.sizeOf214
  v63 := Tryz.zeroValue214
  t64 := Tryz.underlying215
  a64 := Tryz.isAgg215
  z64 := Tryz.sizeOf215
  v64 := Tryz.zeroValue215 }
def Tryz.keys54_ren : Go.Shelf.Ren := ⟨fun | 7 => 54 | 10 => 102 | n => n, fun | 23 => 111 | 26 => 9 | 3 => 4 | 28 => 106 | 0 => 0 | 27 => 105 | 33 => 91 | 4 => 4 | n => n, fun | n => n⟩
theorem Tryz.keys54 : Go.Proofs.SlLaysZ.n7 Tryz.prog Tryz.keys54_ren := {
  mixed := by kernel_rfl
  f7 := ⟨Tryz.f54.name, by decide, Tryz.func54.trans (congrArg some (by kernel_rfl))⟩
  f10 := ⟨Tryz.f102.name, by decide, Tryz.func102.trans (congrArg some (by kernel_rfl))⟩
  t0 := Tryz.underlying0
  a0 := Tryz.isAgg0
  z0 := Tryz.sizeOf0
  v0 := Tryz.zeroValue0
  t4 := Tryz.underlying4
  a4 := Tryz.isAgg4
  z4 := Tryz.sizeOf4
  v4 := Tryz.zeroValue4
  t23 := Tryz.underlying111
  a23 := Tryz.isAgg111
  z23 := Tryz.sizeOf111
  v23 := Tryz.zeroValue111
  t26 := Tryz.underlying9
  a26 := Tryz.isAgg9
  z26 := Tryz.sizeOf9
  v26 := Tryz.zeroValue9
  t27 := Tryz.underlying105
  a27 := Tryz.isAgg105
  z27 := Tryz.sizeOf105
  v27 := Tryz.zeroValue105
  t28 := Tryz.underlying106
  a28 := Tryz.isAgg106
  z28 := Tryz.sizeOf106
  v28 := Tryz.zeroValue106
  t33 := Tryz.underlying91
  a33 := Tryz.isAgg91
  z33 := Tryz.sizeOf91
  v33 := Tryz.zeroValue91 }
end Go.Proofs
namespace Go.Proofs.YtnglkhnfmbnfeaaGreat
open Go Go.SK
def ltB (x y : ByteArray) : Bool := Op.bytesLess x.toList y.toList
theorem ltB_iff {x y : ByteArray} : ltB x y = true ↔ x.toList < y.toList := by unfold ltB; rw [bytesLess_eq]; simp
theorem ltB_trans {x y z : ByteArray} (h1 : ltB x y = true) (h2 : ltB y z = true) : ltB x z = true := by rw [ltB_iff] at *; exact List.lt_trans h1 h2
theorem ltB_irrefl (x : ByteArray) : ltB x x = false := by
  cases h : ltB x x with
  | false => rfl
  | true => rw [ltB_iff] at h; exact absurd h (List.lt_irrefl _)
theorem ltB_asymm {x y : ByteArray} (h1 : ltB x y = true) (h2 : ltB y x = true) : x = y := by
  rw [ltB_iff] at *
  exact absurd (List.lt_trans h1 h2) (List.lt_irrefl _)
theorem ltB_total {x y : ByteArray} (h : ltB x y = false) (hne : x ≠ y) : ltB y x = true := by
  rw [ltB_iff]
  have h1 : ¬ x.toList < y.toList := fun h' => by rw [ltB_iff.2 h'] at h; cases h
  have h2 : y.toList ≤ x.toList := List.not_lt.1 h1
  rcases List.le_iff_lt_or_eq.1 h2 with h3 | h3
  · exact h3
  · exact absurd (bytes_eq.1 h3.symm) hne
def Rising (l : List ByteArray) : Prop := l.Pairwise fun x y => ltB x y = true
theorem Rising.eq {l l' : List ByteArray} (h : Rising l) (h' : Rising l') (hp : l.Perm l') : l = l' :=
  List.Perm.eq_of_pairwise (le := fun x y => ltB x y = true) (fun _ _ _ _ h1 h2 => ltB_asymm h1 h2) h h' hp
theorem Rising.filter {l : List ByteArray} (h : Rising l) (p : ByteArray → Bool) : Rising (l.filter p) := List.Pairwise.filter p h
def putL (l : List ByteArray) (s : ByteArray) : List ByteArray := l.takeWhile (fun y => ltB y s) ++ s :: l.dropWhile (fun y => ltB y s)
theorem putL_at {l : List ByteArray} {s : ByteArray} {k : Nat} (hk : k ≤ l.length) (h1 : ∀ j (hj : j < l.length), j < k → ltB l[j] s = true) (h2 : ∀ hj : k < l.length, ltB l[k] s = false) : putL l s = l.take k ++ s :: l.drop k := by
  have key : ∀ (l : List ByteArray) (k : Nat), k ≤ l.length → (∀ j (hj : j < l.length), j < k → ltB l[j] s = true) → (∀ hj : k < l.length, ltB l[k] s = false) → l.takeWhile (fun y => ltB y s) = l.take k ∧ l.dropWhile (fun y => ltB y s) = l.drop k := by
    intro l
    induction l with
    | nil => intro k hk _ _; simp at hk; subst hk; exact ⟨rfl, rfl⟩
    | cons a l ih =>
      intro k hk h1 h2
      cases k with
      | zero =>
        have := h2 (by simp)
        simp only [List.getElem_cons_zero] at this
        simp [this]
      | succ k =>
        have h0 := h1 0 (by simp) (by omega)
        simp only [List.getElem_cons_zero] at h0
        obtain ⟨g1, g2⟩ := ih k (by simpa using hk) (fun j hj hjk => by have := h1 (j + 1) (by simp; omega) (by omega); simpa using this) (fun hj => by have := h2 (by simp; omega); simpa using this)
        simp [h0, g1, g2]
  unfold putL
  obtain ⟨g1, g2⟩ := key l k hk h1 h2
  rw [g1, g2]
theorem putL_perm (l : List ByteArray) (s : ByteArray) : (putL l s).Perm (s :: l) := by
  unfold putL
  have e := List.takeWhile_append_dropWhile (p := fun y => ltB y s) (l := l)
  have h := List.perm_middle (a := s) (l₁ := l.takeWhile (fun y => ltB y s)) (l₂ := l.dropWhile (fun y => ltB y s))
  rwa [e] at h
theorem putL_len (l : List ByteArray) (s : ByteArray) : (putL l s).length = l.length + 1 := by
  have := (putL_perm l s).length_eq
  simpa using this
theorem putL_rising {l : List ByteArray} {s : ByteArray} (h : Rising l) (hs : s ∉ l) : Rising (putL l s) := by
  induction l with
  | nil => exact List.pairwise_singleton _ _
  | cons a l ih =>
    obtain ⟨ha, hl⟩ := List.pairwise_cons.1 h
    have hsa : s ≠ a := fun e => hs (by rw [e]; exact List.mem_cons_self)
    have hsl : s ∉ l := fun e => hs (List.mem_cons_of_mem _ e)
    by_cases e : ltB a s = true
    · have ep : putL (a :: l) s = a :: putL l s := by simp [putL, e]
      rw [ep]
      refine List.pairwise_cons.2 ⟨fun y hy => ?_, ih hl hsl⟩
      rcases List.mem_cons.1 ((putL_perm l s).mem_iff.1 hy) with rfl | hy
      · exact e
      · exact ha y hy
    · have e' : ltB a s = false := by simpa using e
      have ep : putL (a :: l) s = s :: a :: l := by simp [putL, e']
      rw [ep]
      have hsa' := ltB_total e' (fun e => hsa e.symm)
      refine List.pairwise_cons.2 ⟨fun y hy => ?_, h⟩
      rcases List.mem_cons.1 hy with rfl | hy
      · exact hsa'
      · exact ltB_trans hsa' (ha y hy)
def EntD.holds (e : EntD) (who : ByteArray) : Bool := decide (e.state = 0) && e.ps.any fun q => decide (q.state = 0) && decide (q.holder = who)
end Go.Proofs.YtnglkhnfmbnfeaaGreat
namespace Go.Proofs.YtnglkhnfmbnfeaaGreat
open Go Go.SK
def voided (ps : List PapD) (i : Nat) : List PapD := (ps.take i).map (stateP 2) ++ ps.drop i
theorem voided_step {ps : List PapD} (h : ps.length = 3) {i : Nat} (hi : i < 3) : onIx [i] (stateP 2) (voided ps i) = voided ps (i + 1) := by
  obtain ⟨a, b, c, rfl⟩ := three_cases h
  match i, hi with
  | 0, _ => rfl
  | 1, _ => rfl
  | 2, _ => rfl
theorem voided_3 {ps : List PapD} (h : ps.length = 3) : voided ps 3 = ps.map (stateP 2) := by
  obtain ⟨a, b, c, rfl⟩ := three_cases h
  rfl
theorem PapsAt.states {A : Nat → Prop} {w w' : World} {bq : Nat} {ps : List PapD} {vcs tail : List Value} (h : PapsAt A w bq ps vcs tail) (hA : ∀ b, A b → b ≠ bq) {k : Nat} (hk : k < 3) (s : Int) (hx : Ext (· = bq) w w') (hb : Blk w' bq (((rowsOf ps vcs).flatten ++ tail).set (k * 3) (.int .i64 s)) 126) :
    PapsAt A w' bq (onIx [k] (stateP s) ps) vcs tail := by
  refine ⟨by rw [onIx_len]; exact h.three, h.three', by rw [← set_st h.three h.three' hk]; exact hb, fun i q' vc hq' hvc => ?_⟩
  have hi : i < ps.length := by have := (List.getElem?_eq_some_iff.1 hq').1; rwa [onIx_len] at this
  rw [onIx_get (List.getElem?_eq_getElem hi)] at hq'
  have := (h.chains i ps[i] vc (List.getElem?_eq_getElem hi) hvc).ext hx hA
  simp only [Option.some.injEq] at hq'
  subst hq'; split <;> exact this
set_option maxHeartbeats 4000000 in
theorem r23_Do {A0' A0 : Nat → Prop} {w : World} {vL : Value} {l : List EntD} {gs : List FG} (c : ByteArray) (hF : FRep A0' w vL l gs) (hl : l.length ≤ 256) (hN : RegD.Nd ⟨c, l⟩) (hsm : RegD.Small ⟨c, l⟩) (a : ActD) {vb vp : Value} (hB : SlS A0 w vb a.b.boxes) (hP : SlS A0 w vp a.b.parents) (hok : a.b.Ok)
    (hcap : ∀ a n c, vb = .slice a n c → n ≤ c) (hk : 0 ≤ a.kind ∧ a.kind ≤ 5) (hto : a.to_.size ≤ maxLen) :
    Ret Tryz.prog 34 [.agg ⟨encR c vL⟩, .agg ⟨encAct a vb vp⟩] w fun v w' =>
      (∃ vL' gs', v = .tuple #[.agg ⟨encR c vL'⟩, .int .i64 (actC ⟨c, l⟩ a)] ∧ FRep (fun b => A0' b ∨ w.heap.size ≤ b) w' vL' (doA ⟨c, l⟩ a).l gs') ∧ Ex w w' := by
  have hF0 := hF.lt
  obtain ⟨aL, cL, hvL, hLm⟩ := hF.slice
  subst hvL
  unfold maxLen at hLm
  refine ret_of Tryz.func34 Tryz.ntmps34 rfl rfl rfl ?_
  (repeat (first | refine cw_seq ?_ | refine cw_region ?_))
  refine lw_box rfl ?_
  intro b2 w1 hbb2 hb2 hx1 hs1
  replace hb2 : Blk w1 b2 (encR c (.slice aL l.length cL)) 28 := hb2
  skip
  refine lw_box rfl ?_
  intro b3 w2 hbb3 hb3 hx2 hs2
  replace hb3 : Blk w2 b3 (encAct a vb vp) 73 := hb3
  skip
  refine lw_alloc z28 ?_
  intro b4 w3 hbb4 hb4 hx3 hs3
  have hx03 := (hx1.trans hx2).trans hx3
  have hb23 := (hb2.ex hx2).ex hx3
  have hb33 := hb3.ex hx3
  have hF3 := hF.ex hx03
  (repeat (first | refine lw_pure hT rfl ?_ | refine lw_nil ?_ | refine cw_seq ?_ | refine cw_region ?_ | refine qw_then ?_))
  refine lw_load hT rfl rfl (v := .int .i64 a.kind) (hb33.cell 0) ?_
  (repeat (first | refine lw_pure hT rfl ?_ | refine lw_nil ?_ | refine qw_then ?_))
  refine cw_cond rfl (fun h0 => ?_) (fun h0 => ?_)
  · have h0 : a.kind = 0 := by simpa using h0
    (repeat (first | refine cw_seq ?_ | refine cw_region ?_))
    refine lw_load_agg hT rfl rfl rfl (vs := encR c (.slice aL l.length cL)) (hb23.rd 0 2) ?_
    (repeat (refine lw_pure hT rfl ?_))
    refine lw_load_agg hT rfl rfl rfl (vs := encB a.b vb vp) (hb33.rd 6 9) ?_
    (repeat (refine lw_pure hT rfl ?_))
    refine lw_load hT rfl rfl (v := .string a.to_) (hb33.cell 5) ?_
    skip
    refine lw_call hT rfl rfl (r23_Issue c (hF0.ex hx03) hl (hB.ex hx03) (hP.ex hx03) hok hcap a.to_ hto) ?_
    rintro _ w4 ⟨⟨vL', gs', rfl, hF'⟩, hx4⟩
    have hl3 := hx03.size
    (repeat (refine lw_pure hT rfl ?_))
    refine lw_store_agg hT rfl rfl rfl rfl (by intro v hv; simp [encR] at hv; rcases hv with rfl | rfl <;> first | rfl | exact Sl.one hF'.sl) (hb4.ex hx4) (show (2 : Nat) ≤ 2 by decide) ?_
    intro w5 hb5 hx5 hs5
    (repeat (first | refine lw_pure hT rfl ?_ | refine lw_nil ?_ | refine qw_then ?_ | refine cw_ret ?_ | refine qw_then_ret ?_))
    have hac : actC ⟨c, l⟩ a = issueC ⟨c, l⟩ a.b a.to_ := by unfold actC; rw [if_pos h0]
    have had : doA ⟨c, l⟩ a = issueD ⟨c, l⟩ a.b a.to_ := by unfold doA; rw [if_pos h0]
    have hx05 : Ex w w5 := (hx03.trans hx4).up_new hx5 (fun i hi => by omega)
    refine qw_ret_cell hT rfl rfl rfl rfl (vs := encR c vL') (hb5.rd 0 2) rfl ⟨⟨vL', gs', by rw [hac]; rfl, ?_⟩, hx05⟩
    rw [had]
    exact (hF'.ext hx5 (fun b hb e => by rcases hb with hb | hb <;> omega)).weaken fun b hb => by
      rcases hb with hb | hb
      · exact .inl hb.1
      · exact .inr (by omega)
  · have h0 : ¬ a.kind = 0 := by simpa using h0
    have hk1 : 1 ≤ a.kind ∧ a.kind ≤ 5 := by omega
    have hac : actC ⟨c, l⟩ a = askC ⟨c, l⟩ a.ask := by unfold actC; rw [if_neg h0]
    have hbill : a.ask.bill = a.bill := by
      have : a.kind = 1 ∨ a.kind = 2 ∨ a.kind = 3 ∨ a.kind = 4 ∨ a.kind = 5 := by omega
      rcases this with h | h | h | h | h <;> simp [ActD.ask, h]
    (repeat (first | refine cw_seq ?_ | refine cw_region ?_ | refine qw_then ?_ | refine cw_skip ?_))
    refine lw_load_agg hT rfl rfl rfl (vs := encR c (.slice aL l.length cL)) (hb23.rd 0 2) ?_
    skip
    refine lw_load_agg hT rfl rfl rfl (vs := encAct a vb vp) (hb33.rd 0 15) ?_
    skip
    refine lw_call hT rfl rfl (r23_Wrong (A0 := A0) c hF3 a vb vp hk1 hto) ?_
    rintro _ w4 ⟨rfl, hx4⟩
    have hx04 := hx03.trans hx4
    have hb24 := hb23.ex hx4
    have hb34 := hb33.ex hx4
    have hb44 := hb4.ex hx4
    have hl4 := hx4.size
    (repeat (first | refine lw_pure hT rfl ?_ | refine lw_nil ?_ | refine cw_seq ?_ | refine cw_region ?_ | refine qw_then ?_))
    refine cw_cond rfl (fun hw => ?_) (fun hw => ?_)
    · have hw : ¬ askC ⟨c, l⟩ a.ask = 0 := by simpa using hw
      (repeat (first | refine cw_seq ?_ | refine cw_region ?_))
      refine lw_load_agg hT rfl rfl rfl (vs := encR c (.slice aL l.length cL)) (hb24.rd 0 2) ?_
      (repeat (refine lw_pure hT rfl ?_))
      refine lw_store_agg hT rfl rfl rfl rfl (by intro v hv; simp [encR] at hv; rcases hv with rfl | rfl <;> rfl) hb44 (show (2 : Nat) ≤ 2 by decide) ?_
      intro w5 hb5 hx5 hs5
      (repeat (first | refine lw_pure hT rfl ?_ | refine lw_nil ?_ | refine qw_then ?_ | refine cw_ret ?_ | refine qw_then_ret ?_))
      have had : doA ⟨c, l⟩ a = ⟨c, l⟩ := by unfold doA; rw [if_neg h0, if_neg hw]
      have hx05 : Ex w w5 := hx04.up_new hx5 (fun i hi => by omega)
      refine qw_ret_cell hT rfl rfl rfl rfl (vs := encR c (.slice aL l.length cL)) (hb5.rd 0 2) rfl ⟨⟨_, gs, by rw [hac]; rfl, ?_⟩, hx05⟩
      rw [had]
      exact (hF.ex hx05).weaken fun _ h => .inl h
    · have hw : askC ⟨c, l⟩ a.ask = 0 := by simpa using hw
      have had : doA ⟨c, l⟩ a = RegD.upd ⟨c, l⟩ a.bill (·.after a) := by unfold doA; rw [if_neg h0, if_pos hw]
      rw [hac, had, hw]
      have hF4 := hF0.ex hx04
      rcases fidx_cases l a.bill with ⟨hi, hat⟩ | ⟨i, hil, hi, hat⟩
      · exfalso
        have : RegD.at? ⟨c, l⟩ a.ask.bill = none := by rw [hbill]; exact hat
        simp [askC, this] at hw
      obtain ⟨x, g, bL, oL, cL', hx_, hg_, hv, hrd, hE⟩ := hF4.row hil
      cases hv
      have hxi : x = l[i] := by rw [List.getElem?_eq_getElem hil] at hx_; exact (Option.some.inj hx_).symm
      have hask : askE x a.ask = 0 := by
        have : RegD.at? ⟨c, l⟩ a.ask.bill = some l[i] := by rw [hbill]; exact hat
        simp only [askC, this] at hw; rw [hxi]; exact hw
      have hwr : wrongE x a = 0 := (wrongE_eq hk1).trans hask
      have hbi : badIx a = false := by
        cases h : badIx a with
        | false => rfl
        | true => unfold wrongE at hwr; rw [if_pos h] at hwr; cases hwr
      obtain ⟨eW, eI, eN⟩ := goodIx hk1 hbi
      (repeat (first | refine cw_seq ?_ | refine cw_region ?_ | refine qw_then ?_ | refine cw_skip ?_))
      refine lw_load_agg hT rfl rfl rfl (vs := encR c (.slice (some ⟨bL, oL, none⟩) l.length cL)) (hb24.rd 0 2) ?_
      (repeat (refine lw_pure hT rfl ?_))
      refine lw_load hT rfl rfl (v := .string a.bill) (hb34.cell 3) ?_
      skip
      refine lw_call hT rfl rfl (r23_Find c a.bill hF4) ?_
      rintro _ w5 ⟨rfl, hx5⟩
      rw [hi]
      have hb25 := hb24.ex hx5
      have hb35 := hb34.ex hx5
      have hb45 := hb44.ex hx5
      have hE5 := hE.ex hx5
      have hl5 := hx5.size
      (repeat (first | refine lw_pure hT rfl ?_ | refine lw_nil ?_ | refine cw_seq ?_ | refine cw_region ?_ | refine qw_then ?_))
      refine lw_load hT rfl rfl (v := .slice (some ⟨bL, oL, none⟩) l.length cL) (hb25.cell 1) ?_
      (repeat (refine lw_pure hT rfl ?_))
      refine lw_index hT rfl rfl rfl i rfl hil ?_
      skip
      refine lw_load_agg hT rfl rfl rfl (vs := entF (x, g)) (hrd.ex hx5) ?_
      skip
      refine lw_alloc z56 ?_
      intro b8 w6 hbb8 hb8 hx6 hs6
      skip
      refine lw_store_agg hT rfl rfl rfl rfl (entF_one hE) hb8 (show (11 : Nat) ≤ 11 by decide) ?_
      intro w7 hb87 hx7 hs7
      replace hb87 : Blk w7 b8 (entF (x, g)) 56 := hb87
      have hx57 : Ex w5 w7 := hx6.up_new hx7 (fun i hi => by omega)
      (repeat (first | refine lw_nil ?_ | refine cw_seq ?_ | refine cw_region ?_ | refine qw_then ?_))
      refine lw_buildSlice sl54 rfl rfl rfl ?_
      intro e1 w8 he1 hbe1 hx8 hs8
      (repeat (refine lw_pure hT rfl ?_))
      refine lw_load hT rfl rfl (v := g.vP) ((hb87.ex hx8).cell 10) ?_
      skip
      have hown1 : w8.ownsRow w7.heap.size 126 3 (.slice (some ⟨e1, 0, none⟩) 0 0) 0 [] := own_lit hbe1 (by omega) rfl (by decide)
      have hE8 := (hE5.ex hx57).ex hx8
      have hpl : ((x.ps.zip g.vcs).map papRow).length = 3 := by simp [hE.three, hE.three']
      refine lw_append_sl sl54 (by decide) rfl hown1 rfl hE8.papers (by
        intro r hr u hu
        obtain ⟨⟨q, vc⟩, hz, rfl⟩ := List.mem_map.1 hr
        obtain ⟨j, hj⟩ := List.getElem?_of_mem hz
        rw [List.getElem?_zip_eq_some] at hj
        simp [papRow] at hu
        rcases hu with rfl | rfl | rfl <;> first | rfl | exact Sl.one (hE8.chains j q _ hj.1 hj.2)) (by rw [hpl]; decide) (by rw [hpl]; decide) (by omega) ?_
      intro v9 w9 g1 g2 g3 g4
      rw [hpl] at g1
      rcases g1.2 with ⟨_, hz⟩ | ⟨bq, capq, cur, rfl, hbq, hbqb, hq1, hq2, hq3, hq4⟩
      · cases hz
      have hl9 := g2.size
      have hx79 : Ex w7 w9 := hx8.up_new g2 (fun i h => by simp [Value.ownBlock] at h; omega)
      have hx59 := hx57.trans hx79
      have hbql : bq < w9.heap.size := (own_base g1 rfl).2
      have hP9 : PapsAt (fun b => (A0' b ∨ w.heap.size ≤ b) ∧ (b ≠ bq ∧ b ≠ b8 ∧ b ≠ b2 ∧ b ≠ b4)) w9 bq x.ps g.vcs (cur.toList.drop 9) := by
        refine ⟨hE.three, hE.three', ?_, fun j q vc h1 h2 => ((hE5.ex hx59).chains j q vc h1 h2).weaken fun b hb => ⟨.inl hb.1, by have := hb.2; have := hx04.size; omega, by have := hb.2; have := hx04.size; omega, by have := hb.2; omega, by have := hb.2; have := hx03.size; omega⟩⟩
        have e : cur.toList = (rowsOf x.ps g.vcs).flatten ++ cur.toList.drop 9 := by
          have : (rowsOf x.ps g.vcs).flatten = cur.toList.take 9 := by rw [hq4]; rfl
          rw [this, List.take_append_drop]
        unfold Blk; rw [← e]; exact hbqb
      have hb29 := hb25.ex hx59
      have hb39 := hb35.ex hx59
      (repeat (first | refine lw_pure hT rfl ?_ | refine lw_nil ?_ | refine cw_seq ?_ | refine cw_region ?_ | refine qw_then ?_))
      refine lw_load_agg hT rfl rfl rfl (vs := encAct a vb vp) (hb39.rd 0 15) ?_
      skip
      refine lw_call hT rfl rfl (r23_which a vb vp w9) ?_
      rintro v10 w10 ⟨hv10, hx10⟩
      have hP10 : PapsAt (fun b => (A0' b ∨ w.heap.size ≤ b) ∧ (b ≠ bq ∧ b ≠ b8 ∧ b ≠ b2 ∧ b ≠ b4)) w10 bq x.ps g.vcs (cur.toList.drop 9) := ⟨hP9.three, hP9.three', hP9.blk.ex hx10, fun j q vc h1 h2 => (hP9.chains j q vc h1 h2).ex hx10⟩
      have hl10 := hx10.size
      have hb310 := hb39.ex hx10
      have hnn : ((whichD a).map fun i => [Value.int .i64 i]) ≠ [] := by rw [eW]; simp; exact eN
      have hwl : (whichD a).length = (whichN a).length := by rw [eW]; simp
      have hwm := hv10.small
      obtain ⟨va, vcap, hv7e, _, hvr⟩ := hv10.is
      subst hv7e
      obtain ⟨bw, ow, rfl, hbw, hwrd⟩ := hvr hnn
      simp only [List.length_map] at hwm ⊢
      unfold maxLen at hwm
      have hlen3 : (whichN a).length ≤ 3 := by rw [eI, ← ixs_eq]; exact Nat.le_trans (List.length_filter_le _ _) (by simp)
      have get : ∀ j, j < (whichN a).length → ∃ k, (whichN a)[j]? = some k ∧ k < 3 ∧ w10.cell? ⟨bw, ow + j * 1, none⟩ = some (.int .i64 (k : Nat)) := by
        intro j hj
        refine ⟨(whichN a)[j], List.getElem?_eq_getElem hj, ixs_lt (index := a.ask.index) (by rw [← eI]; exact List.getElem_mem hj), ?_⟩
        have h1 : ((whichD a).map fun i => [Value.int .i64 i])[j]? = some [.int .i64 ((whichN a)[j] : Nat)] := by
          rw [eW, List.map_map, List.getElem?_map, List.getElem?_eq_getElem hj]; rfl
        exact (hwrd j _ h1).2 0 _ rfl
      rw [hwl]
      (repeat (first | refine lw_pure hT rfl ?_ | refine lw_nil ?_ | refine cw_seq ?_ | refine cw_region ?_ | refine qw_then ?_ | refine cw_block ?_))
      refine cw_loop (fun j : Nat => [(2, pB b2), (3, pB b3), (4, pB b4), (7, .int .i64 (i : Nat)), (8, pB b8), (9, .slice (some ⟨bq, 0, none⟩) 3 capq), (10, .slice (some ⟨bw, ow, none⟩) (whichN a).length vcap), (11, .int .i64 (j : Nat))])
        (fun j w' => j ≤ (whichN a).length ∧ Ext (· = bq) w10 w' ∧ ∃ vcs, PapsAt (fun b => (A0' b ∨ w.heap.size ≤ b) ∧ (b ≠ bq ∧ b ≠ b8 ∧ b ≠ b2 ∧ b ≠ b4)) w' bq (onIx ((whichN a).take j) (fD a) x.ps) vcs (cur.toList.drop 9)) (fun j => (whichN a).length - j) 0 (by repeat (first | exact trivial | refine ⟨rfl, ?_⟩)) ⟨Nat.zero_le _, Ext.refl _ _, g.vcs, ?_⟩ ?_
      · have : onIx ((whichN a).take 0) (fD a) x.ps = x.ps := by
          obtain ⟨q0, q1, q2, hq⟩ := three_cases hE.three
          rw [hq]; rfl
        rw [this]; exact hP10
      rintro j w11 ⟨hj, hx11, vcs, hP11⟩
      unfold pB
      have hb311 := hb310.ext hx11 (by have := hb310.lt; omega)
      have hl11 := hx11.size
      (repeat (first | refine lw_pure hT rfl ?_ | refine lw_nil ?_ | refine cw_seq ?_ | refine cw_region ?_ | refine qw_then ?_))
      refine cw_cond rfl (fun h => ?_) (fun h => ?_)
      · have hlt : j < (whichN a).length := by have := of_decide_eq_true h; omega
        obtain ⟨k, hkj, hk3, hcell⟩ := get j hlt
        have hkk : (ixs a.ask.index)[j]? = some k := by rw [← eI]; exact hkj
        obtain ⟨st1, st2⟩ := onIx_step (fD a) hE.three hkk
        rw [← eI] at st1 st2
        obtain ⟨q, hq0⟩ : ∃ q, x.ps[k]? = some q := ⟨_, papAt_get hE.three hk3⟩
        have hqk := st2.trans hq0
        obtain ⟨vc, hvk⟩ : ∃ vc, vcs[k]? = some vc := ⟨_, List.getElem?_eq_getElem (by rw [hP11.three']; exact hk3)⟩
        have hchk := hP11.chains _ _ _ hqk hvk
        have hqm := List.mem_of_getElem? hq0
        have hrow : Rd w11 bq (0 + k * 3) [.int .i64 q.state, .string q.holder, vc] := by
          have := hP11.blk.rd (k * 3) 3
          rw [row_take hP11.three hP11.three' hk3 hqk hvk] at this
          rwa [Nat.zero_add]
        (repeat (first | refine lw_pure hT rfl ?_ | refine cw_seq ?_ | refine cw_region ?_ | refine qw_then ?_ | refine cw_skip ?_ | refine cw_block ?_))
        refine lw_index hT rfl rfl rfl j rfl hlt ?_
        skip
        refine lw_load hT rfl rfl (v := .int .i64 (k : Nat)) (hx11.cell hcell (by have := hbw; omega)) ?_
        skip
        refine lw_index hT rfl rfl rfl k rfl hk3 ?_
        skip
        refine lw_load_agg hT rfl rfl rfl hrow ?_
        skip
        refine lw_alloc z126 ?_
        intro b12 w12 hbb12 hb12 hx12 hs12
        skip
        refine lw_store_agg hT rfl rfl rfl rfl (by intro v hv; simp at hv; rcases hv with rfl | rfl | rfl <;> first | rfl | exact Sl.one hchk) hb12 (show (3 : Nat) ≤ 3 by decide) ?_
        intro w13 hb13 hx13 hs13
        replace hb13 : Blk w13 b12 [.int .i64 q.state, .string q.holder, vc] 126 := hb13
        refine lw_nil ?_
        refine qw_then ?_
        refine cw_seq ?_
        refine cw_then_cut (α := Value) (fun u => [(2, pB b2), (3, pB b3), (4, pB b4), (7, .int .i64 (i : Nat)), (8, pB b8), (9, .slice (some ⟨bq, 0, none⟩) 3 capq), (10, .slice (some ⟨bw, ow, none⟩) (whichN a).length vcap), (11, .int .i64 (j : Nat)), (12, pB b12)])
          (fun u w' => Ex w11 w' ∧ Blk w' b12 [.int .i64 (fD a q).state, .string (fD a q).holder, u] 126 ∧ SlE (fun b => (A0' b ∨ w.heap.size ≤ b) ∧ (b ≠ bq ∧ b ≠ b8 ∧ b ≠ b2 ∧ b ≠ b4)) w' u (fD a q).chain) ?_ ?_
        · have hx1113 : Ex w11 w13 := hx12.up_new hx13 (fun i hi => by omega)
          have hb313 := hb311.ex hx1113
          have hch13 := hchk.ex hx1113
          unfold pB
          have hks : a.kind = 1 ∨ a.kind = 2 ∨ a.kind = 3 ∨ a.kind = 4 ∨ a.kind = 5 := by omega
          (repeat (first | refine lw_pure hT rfl ?_ | refine cw_seq ?_ | refine cw_region ?_))
          refine lw_load hT rfl rfl (v := .int .i64 a.kind) (hb313.cell 0) ?_
          (repeat (first | refine lw_pure hT rfl ?_ | refine lw_nil ?_ | refine cw_seq ?_ | refine cw_region ?_ | refine qw_then ?_ | refine cw_block ?_))
          refine cw_cond rfl (fun h1 => ?_) (fun h1 => ?_)
          · have h1 : a.kind = 1 := by simpa using h1
            have efD : fD a = endorseP a.by_ a.to_ a.day := by unfold fD; rw [if_pos h1]
            rw [efD]
            (repeat (first | refine lw_pure hT rfl ?_ | refine cw_seq ?_ | refine cw_region ?_))
            refine lw_load hT rfl rfl (v := .string a.to_) (hb313.cell 5) ?_
            (repeat (refine lw_pure hT rfl ?_))
            refine lw_store (size := 1) hT rfl rfl rfl rfl hb13 (show (1 : Nat) < 3 by decide) ?_
            intro w15 hb15 hx15 hs15
            replace hb15 : Blk w15 b12 [.int .i64 q.state, .string a.to_, vc] 126 := hb15
            have hx1115 : Ex w11 w15 := hx1113.up_new hx15 (fun i hi => by omega)
            have hb315 := hb311.ex hx1115
            have hch15 : SlE (fun b => (A0' b ∨ w.heap.size ≤ b) ∧ (b ≠ bq ∧ b ≠ b8 ∧ b ≠ b2 ∧ b ≠ b4)) w15 vc q.chain := hchk.ex hx1115
            have hqs : q.chain.length ≤ 1000000 := (hsm x (List.mem_of_getElem? hx_)).1 _ hqm
            have hl15 := hx1115.size
            have fin17 : ∀ (u2 : Value) (wa wb : World), Ex w15 wa → Ext (· = b12) wa wb → Blk wb b12 ([.int .i64 q.state, .string a.to_, vc].set 2 u2) 126 →
                wa.ownsRow w15.heap.size 139 4 u2 (q.chain.length + 1) ((q.chain.map encE).flatten ++ encE (newE a.by_ a.to_ a.day)) →
                Ex w11 wb ∧ Blk wb b12 [.int .i64 (endorseP a.by_ a.to_ a.day q).state, .string (endorseP a.by_ a.to_ a.day q).holder, u2] 126 ∧ SlE (fun b => (A0' b ∨ w.heap.size ≤ b) ∧ (b ≠ bq ∧ b ≠ b8 ∧ b ≠ b2 ∧ b ≠ b4)) wb u2 (endorseP a.by_ a.to_ a.day q).chain := by
              intro u2 wa wb hxa hxb hblk how
              have hla := hxa.size
              refine ⟨(hx1115.trans hxa).up_new hxb (fun i hi => by omega), hblk, ?_⟩
              have how' := own_ext how hxb (fun k hk e => by have := own_base how hk; have := hb15.lt; omega)
              refine own_sl (base := w15.heap.size) (e := 139) ?_ encE_len (fun k hk => ?_)
              · simp only [endorseP, List.length_map, List.length_append, List.length_singleton, List.map_append, List.flatten_append]
                exact how'
              · have := own_base how hk
                have := hx04.size
                exact ⟨.inr (by omega), by omega, by omega, by omega, by omega⟩
            (repeat (first | refine lw_nil ?_ | refine qw_then ?_))
            refine cw_draw hM (fun w' => Ex w15 w') [14] rfl rfl (by repeat with_reducible (first | refine nop_then ?_ | refine nop_block ?_ | exact nop_body)) (fun w16 hx16 _ => ⟨hx16, ?_⟩)
            (refine rw_takeP 1 rfl rfl (by kernel_rfl) (by kernel_rfl) (by kernel_rfl) (by kernel_rfl) rfl (yo_pure hT rfl) ?_)
            refine rw_take 2 rfl rfl (by kernel_rfl) (by kernel_rfl) (by kernel_rfl) (by kernel_rfl) rfl (yo_load hT rfl rfl (fun w' hS => Ex.cell hS (hb15.cell 2))) ?_
            (refine rw_takeP 4 rfl rfl (by kernel_rfl) (by kernel_rfl) (by kernel_rfl) (by kernel_rfl) rfl (yo_pure hT rfl) ?_)
            refine rw_take 5 rfl rfl (by kernel_rfl) (by kernel_rfl) (by kernel_rfl) (by kernel_rfl) rfl (yo_load hT rfl rfl (v := .string a.by_) (fun w' hS => Ex.cell hS (hb315.cell 4))) ?_
            (refine rw_takeP 6 rfl rfl (by kernel_rfl) (by kernel_rfl) (by kernel_rfl) (by kernel_rfl) rfl (yo_pure hT rfl) ?_)
            refine rw_take 7 rfl rfl (by kernel_rfl) (by kernel_rfl) (by kernel_rfl) (by kernel_rfl) rfl (yo_load hT rfl rfl (v := .string a.to_) (fun w' hS => Ex.cell hS (hb315.cell 5))) ?_
            (refine rw_takeP 8 rfl rfl (by kernel_rfl) (by kernel_rfl) (by kernel_rfl) (by kernel_rfl) rfl (yo_pure hT rfl) ?_)
            refine rw_take 9 rfl rfl (by kernel_rfl) (by kernel_rfl) (by kernel_rfl) (by kernel_rfl) rfl (yo_load hT rfl rfl (v := .int .i64 a.day) (fun w' hS => Ex.cell hS (hb315.cell 2))) ?_
            refine rw_takeP 10 rfl rfl (by kernel_rfl) (by kernel_rfl) (by kernel_rfl) (by kernel_rfl) rfl (yo_build bt139 rfl) ?_
            refine rw_two 0 11 rfl rfl (by kernel_rfl) rfl rfl (fun hcl => ?_) (fun hcl => ?_)
            · refine lw_buildSlice sl82 rfl rfl rfl ?_
              intro e0 w17 he0 hbe0 hx17 hs17
              have hC17 := hx16.trans hx17
              have own17 : w17.ownsRow w15.heap.size 139 4 (.slice (some ⟨e0, 0, none⟩) 0 0) 0 [] := own_lit hbe0 (by have := hx16.size; omega) rfl (by decide)
              (repeat (refine lw_nil ?_))
              refine qw_rw (by repeat with_reducible (first | refine nop_then ?_ | refine nop_block ?_ | exact nop_body)) hcl (fun _ => hC17) ?_
              refine rw_two 3 11 rfl rfl (by kernel_rfl) rfl rfl (fun hcl => ?_) (fun hcl => ?_)
              · refine lw_append_sl sl82 (by decide) rfl own17 rfl (hch15.ex hC17) encE_one (by simp [maxLen]; omega) (by simp; omega) (by have := hC17.size; omega) ?_
                intro u1 w18 g1 g2 g3 g4
                have hC18 : Ex w15 w18 := hC17.up_new g2 (fun i h => by simp [Value.ownBlock] at h; have := hx16.size; have := hC17.size; omega)
                rw [Nat.zero_add, List.nil_append, List.length_map] at g1
                (repeat (refine lw_nil ?_))
                refine qw_rw (by repeat with_reducible (first | refine nop_then ?_ | refine nop_block ?_ | exact nop_body)) hcl (fun _ => hC18) ?_
                refine rw_one 11 rfl (by kernel_rfl) rfl (fun hcl => ?_)
                refine lw_buildSlice sl82 rfl rfl rfl ?_
                intro e11 w19 he11 hbe11 hx19 hs19
                replace hbe11 : Blk w19 e11 (encE (newE a.by_ a.to_ a.day)) 139 := hbe11
                have hC19 := hC18.trans hx19
                have own19 := own_ex g1 hx19
                (repeat (refine lw_nil ?_))
                refine qw_rw (by repeat with_reducible (first | refine nop_then ?_ | refine nop_block ?_ | exact nop_body)) hcl (fun _ => hC19) ?_
                refine rw_one 12 rfl (by kernel_rfl) rfl (fun hcl => ?_)
                refine lw_append sl82 (by decide) rfl own19 rfl (hbe11.rd 0 4) rfl (by intro u hu; simp [encE] at hu; rcases hu with rfl | rfl | rfl | rfl <;> rfl) (by unfold maxLen; omega) (by omega) (by have := hC19.size; omega) ?_
                intro u2 w20 k1 k2 k3 k4
                have hu1b : ∀ k, Value.ownBlock u1 = some k → w15.heap.size ≤ k := fun k hk => (own_base g1 hk).1
                have hC20 : Ex w15 w20 := hC19.up_new k2 (fun i h => hu1b i h.symm)
                (repeat (refine lw_nil ?_))
                refine qw_rw (by repeat with_reducible (first | refine nop_then ?_ | refine nop_block ?_ | exact nop_body)) hcl (fun _ => hC20) ?_
                (refine rw_takeP 13 rfl rfl (by kernel_rfl) (by kernel_rfl) (by kernel_rfl) (by kernel_rfl) rfl (yo_pure hT rfl) ?_)
                refine rw_one 14 rfl (by kernel_rfl) rfl (fun hcl => ?_)
                refine lw_store (size := 1) hT rfl rfl rfl (own_one k1) (hb15.ex hC20) (show (2 : Nat) < 3 by decide) ?_
                intro w21 hbz hxz hsz
                (repeat (refine lw_nil ?_))
                refine qw_rw (by repeat with_reducible (first | refine nop_then ?_ | refine nop_block ?_ | exact nop_body)) hcl (fun h => absurd h (by decide)) ?_
                refine rw_done (by kernel_rfl) ?_
                (repeat (refine qw_block ?_))
                exact qw_cut u2 (by repeat (first | exact trivial | refine ⟨rfl, ?_⟩)) (fin17 u2 w20 w21 hC20 hxz hbz k1)
              · refine lw_buildSlice sl82 rfl rfl rfl ?_
                intro e11 w18 he11 hbe11 hx18 hs18
                replace hbe11 : Blk w18 e11 (encE (newE a.by_ a.to_ a.day)) 139 := hbe11
                have hC18 := hC17.trans hx18
                have own18 := own_ex own17 hx18
                (repeat (refine lw_nil ?_))
                refine qw_rw (by repeat with_reducible (first | refine nop_then ?_ | refine nop_block ?_ | exact nop_body)) hcl (fun _ => hC18) ?_
                refine rw_one 3 rfl (by kernel_rfl) rfl (fun hcl => ?_)
                refine lw_append_sl sl82 (by decide) rfl own18 rfl (hch15.ex hC18) encE_one (by simp [maxLen]; omega) (by simp; omega) (by have := hC18.size; omega) ?_
                intro u1 w19 g1 g2 g3 g4
                have hC19 : Ex w15 w19 := hC18.up_new g2 (fun i h => by simp [Value.ownBlock] at h; have := hx16.size; have := hC17.size; omega)
                rw [Nat.zero_add, List.nil_append, List.length_map] at g1
                have be19 := hbe11.ext g2 (by simp [Value.ownBlock]; have := hC18.size; omega)
                (repeat (refine lw_nil ?_))
                refine qw_rw (by repeat with_reducible (first | refine nop_then ?_ | refine nop_block ?_ | exact nop_body)) hcl (fun _ => hC19) ?_
                refine rw_one 12 rfl (by kernel_rfl) rfl (fun hcl => ?_)
                refine lw_append sl82 (by decide) rfl g1 rfl (be19.rd 0 4) rfl (by intro u hu; simp [encE] at hu; rcases hu with rfl | rfl | rfl | rfl <;> rfl) (by unfold maxLen; omega) (by omega) (by have := hC19.size; omega) ?_
                intro u2 w20 k1 k2 k3 k4
                have hu1b : ∀ k, Value.ownBlock u1 = some k → w15.heap.size ≤ k := fun k hk => (own_base g1 hk).1
                have hC20 : Ex w15 w20 := hC19.up_new k2 (fun i h => hu1b i h.symm)
                (repeat (refine lw_nil ?_))
                refine qw_rw (by repeat with_reducible (first | refine nop_then ?_ | refine nop_block ?_ | exact nop_body)) hcl (fun _ => hC20) ?_
                (refine rw_takeP 13 rfl rfl (by kernel_rfl) (by kernel_rfl) (by kernel_rfl) (by kernel_rfl) rfl (yo_pure hT rfl) ?_)
                refine rw_one 14 rfl (by kernel_rfl) rfl (fun hcl => ?_)
                refine lw_store (size := 1) hT rfl rfl rfl (own_one k1) (hb15.ex hC20) (show (2 : Nat) < 3 by decide) ?_
                intro w21 hbz hxz hsz
                (repeat (refine lw_nil ?_))
                refine qw_rw (by repeat with_reducible (first | refine nop_then ?_ | refine nop_block ?_ | exact nop_body)) hcl (fun h => absurd h (by decide)) ?_
                refine rw_done (by kernel_rfl) ?_
                (repeat (refine qw_block ?_))
                exact qw_cut u2 (by repeat (first | exact trivial | refine ⟨rfl, ?_⟩)) (fin17 u2 w20 w21 hC20 hxz hbz k1)
            · refine lw_buildSlice sl82 rfl rfl rfl ?_
              intro e11 w17 he11 hbe11 hx17 hs17
              replace hbe11 : Blk w17 e11 (encE (newE a.by_ a.to_ a.day)) 139 := hbe11
              have hC17 := hx16.trans hx17
              (repeat (refine lw_nil ?_))
              refine qw_rw (by repeat with_reducible (first | refine nop_then ?_ | refine nop_block ?_ | exact nop_body)) hcl (fun _ => hC17) ?_
              refine rw_one 0 rfl (by kernel_rfl) rfl (fun hcl => ?_)
              refine lw_buildSlice sl82 rfl rfl rfl ?_
              intro e0 w18 he0 hbe0 hx18 hs18
              have hC18 := hC17.trans hx18
              have own18 : w18.ownsRow w15.heap.size 139 4 (.slice (some ⟨e0, 0, none⟩) 0 0) 0 [] := own_lit hbe0 (by have := hC17.size; omega) rfl (by decide)
              have be18 := hbe11.ex hx18
              (repeat (refine lw_nil ?_))
              refine qw_rw (by repeat with_reducible (first | refine nop_then ?_ | refine nop_block ?_ | exact nop_body)) hcl (fun _ => hC18) ?_
              refine rw_one 3 rfl (by kernel_rfl) rfl (fun hcl => ?_)
              refine lw_append_sl sl82 (by decide) rfl own18 rfl (hch15.ex hC18) encE_one (by simp [maxLen]; omega) (by simp; omega) (by have := hC18.size; omega) ?_
              intro u1 w19 g1 g2 g3 g4
              have hC19 : Ex w15 w19 := hC18.up_new g2 (fun i h => by simp [Value.ownBlock] at h; have := hx16.size; have := hC17.size; omega)
              rw [Nat.zero_add, List.nil_append, List.length_map] at g1
              have be19 := be18.ext g2 (by simp [Value.ownBlock]; have := hC18.size; omega)
              (repeat (refine lw_nil ?_))
              refine qw_rw (by repeat with_reducible (first | refine nop_then ?_ | refine nop_block ?_ | exact nop_body)) hcl (fun _ => hC19) ?_
              refine rw_one 12 rfl (by kernel_rfl) rfl (fun hcl => ?_)
              refine lw_append sl82 (by decide) rfl g1 rfl (be19.rd 0 4) rfl (by intro u hu; simp [encE] at hu; rcases hu with rfl | rfl | rfl | rfl <;> rfl) (by unfold maxLen; omega) (by omega) (by have := hC19.size; omega) ?_
              intro u2 w20 k1 k2 k3 k4
              have hu1b : ∀ k, Value.ownBlock u1 = some k → w15.heap.size ≤ k := fun k hk => (own_base g1 hk).1
              have hC20 : Ex w15 w20 := hC19.up_new k2 (fun i h => hu1b i h.symm)
              (repeat (refine lw_nil ?_))
              refine qw_rw (by repeat with_reducible (first | refine nop_then ?_ | refine nop_block ?_ | exact nop_body)) hcl (fun _ => hC20) ?_
              (refine rw_takeP 13 rfl rfl (by kernel_rfl) (by kernel_rfl) (by kernel_rfl) (by kernel_rfl) rfl (yo_pure hT rfl) ?_)
              refine rw_one 14 rfl (by kernel_rfl) rfl (fun hcl => ?_)
              refine lw_store (size := 1) hT rfl rfl rfl (own_one k1) (hb15.ex hC20) (show (2 : Nat) < 3 by decide) ?_
              intro w21 hbz hxz hsz
              (repeat (refine lw_nil ?_))
              refine qw_rw (by repeat with_reducible (first | refine nop_then ?_ | refine nop_block ?_ | exact nop_body)) hcl (fun h => absurd h (by decide)) ?_
              refine rw_done (by kernel_rfl) ?_
              (repeat (refine qw_block ?_))
              exact qw_cut u2 (by repeat (first | exact trivial | refine ⟨rfl, ?_⟩)) (fin17 u2 w20 w21 hC20 hxz hbz k1)
          · have h1 : ¬ a.kind = 1 := by simpa using h1
            (repeat (first | refine lw_pure hT rfl ?_ | refine lw_nil ?_ | refine cw_seq ?_ | refine cw_region ?_ | refine qw_then ?_))
            refine cw_cond rfl (fun h3 => ?_) (fun h3 => ?_)
            · have h3 : a.kind = 3 := by simpa using h3
              have efD : fD a = stateP 3 := by unfold fD; rw [if_neg h1, if_pos h3]
              rw [efD]
              (repeat (first | refine lw_pure hT rfl ?_ | refine cw_region ?_))
              refine lw_store (size := 1) hT rfl rfl rfl rfl hb13 (show (0 : Nat) < 3 by decide) ?_
              intro w15 hb15 hx15 hs15
              (repeat (first | refine lw_nil ?_ | refine qw_block ?_))
              exact qw_cut _ (by repeat (first | exact trivial | refine ⟨rfl, ?_⟩)) ⟨hx1113.up_new hx15 (fun i hi => by omega), hb15, hchk.ex (hx1113.up_new hx15 (fun i hi => by omega))⟩
            · have h3 : ¬ a.kind = 3 := by simpa using h3
              (repeat (first | refine lw_pure hT rfl ?_ | refine lw_nil ?_ | refine cw_seq ?_ | refine cw_region ?_ | refine qw_then ?_))
              refine cw_cond rfl (fun h4 => ?_) (fun h4 => ?_)
              · have h4 : a.kind = 4 := by simpa using h4
                have efD : fD a = stateP 0 := by unfold fD; rw [if_neg h1, if_neg h3, if_pos h4]
                rw [efD]
                (repeat (first | refine lw_pure hT rfl ?_ | refine cw_region ?_))
                refine lw_store (size := 1) hT rfl rfl rfl rfl hb13 (show (0 : Nat) < 3 by decide) ?_
                intro w15 hb15 hx15 hs15
                (repeat (first | refine lw_nil ?_ | refine qw_block ?_))
                exact qw_cut _ (by repeat (first | exact trivial | refine ⟨rfl, ?_⟩)) ⟨hx1113.up_new hx15 (fun i hi => by omega), hb15, hchk.ex (hx1113.up_new hx15 (fun i hi => by omega))⟩
              · have h4 : ¬ a.kind = 4 := by simpa using h4
                have efD : fD a = id := by unfold fD; rw [if_neg h1, if_neg h3, if_neg h4]
                rw [efD]
                (repeat (first | refine cw_skip ?_ | refine qw_block ?_))
                exact qw_cut _ (by repeat (first | exact trivial | refine ⟨rfl, ?_⟩)) ⟨hx1113, hb13, hch13⟩
        rintro u w14 ⟨hx14, hb14, hch14⟩
        have hx1014 : Ext (· = bq) w10 w14 := hx11.up hx14
        have hl14 := hx14.size
        have hP14 : Blk w14 bq ((rowsOf (onIx ((whichN a).take j) (fD a) x.ps) vcs).flatten ++ cur.toList.drop 9) 126 := hP11.blk.ex hx14
        unfold pB
        (repeat (refine qw_then ?_))
        refine cw_draw hM (fun w' => Ex w14 w') [7] rfl rfl (by repeat with_reducible (first | refine nop_then ?_ | refine nop_block ?_ | exact nop_body)) (fun w15 hx15 _ => ⟨hx15, ?_⟩)
        (refine rw_takeP 0 rfl rfl (by kernel_rfl) (by kernel_rfl) (by kernel_rfl) (by kernel_rfl) rfl (yo_pure hT rfl) ?_; refine rw_takeP 1 rfl rfl (by kernel_rfl) (by kernel_rfl) (by kernel_rfl) (by kernel_rfl) rfl (yo_pure hT rfl) ?_; refine rw_takeP 2 rfl rfl (by kernel_rfl) (by kernel_rfl) (by kernel_rfl) (by kernel_rfl) rfl (yo_pure hT rfl) ?_)
        refine rw_takeP 3 rfl rfl (by kernel_rfl) (by kernel_rfl) (by kernel_rfl) (by kernel_rfl) rfl (yo_index hT rfl rfl rfl j rfl hlt) ?_
        refine rw_take 4 rfl rfl (by kernel_rfl) (by kernel_rfl) (by kernel_rfl) (by kernel_rfl) rfl (yo_load hT rfl rfl (v := .int .i64 (k : Nat)) (fun w' hS => Ex.cell hS (hx1014.cell hcell (by have := hbw; omega)))) ?_
        refine rw_take 5 rfl rfl (by kernel_rfl) (by kernel_rfl) (by kernel_rfl) (by kernel_rfl) rfl (yo_load_agg hT rfl rfl rfl (fun w' hS => (hb14.ex hS).rd 0 3)) ?_
        refine rw_takeP 6 rfl rfl (by kernel_rfl) (by kernel_rfl) (by kernel_rfl) (by kernel_rfl) rfl (yo_index hT rfl rfl rfl k rfl hk3) ?_
        refine rw_one 7 rfl (by kernel_rfl) rfl (fun hcl => ?_)
        refine lw_store_agg hT rfl rfl rfl rfl (by intro v hv; simp at hv; rcases hv with rfl | rfl | rfl <;> first | rfl | exact Sl.one hch14) (hP14.ex hx15) (show 0 + k * 3 + 3 ≤ _ by rw [rows_len hP11.three hP11.three']; omega) ?_
        intro w16 hb16 hx16 hs16
        (repeat (refine lw_nil ?_))
        refine qw_rw (by repeat with_reducible (first | refine nop_then ?_ | refine nop_block ?_ | exact nop_body)) hcl (fun h => absurd h (by decide)) ?_
        refine rw_done (by kernel_rfl) ?_
        (repeat (first | (refine lw_add rfl rfl ?_ ?_ ?_; iterate 2 omega) | refine lw_pure hT rfl ?_ | refine lw_nil ?_ | refine cw_region ?_ | refine qw_then ?_ | refine qw_block ?_))
        have hxE : Ext (· = bq) w11 w16 := ((Ext.of_ex hx14).up hx15).trans hx16
        refine qw_round (j + 1) (by repeat (first | exact trivial | refine ⟨rfl, ?_⟩)) ⟨hlt, hx11.trans hxE, vcs.set k u, ?_⟩ (by omega)
        rw [st1, onIx_set hP11.three hk3 hqk]
        refine ⟨by simp [hP11.three], by simp [hP11.three'], ?_, ?_⟩
        · rw [← set_row hP11.three hP11.three' hk3 (fD a q) u]
          have e : 0 + k * 3 = k * 3 := Nat.zero_add _
          rw [e] at hb16; exact hb16
        · intro j' q' vc' hq' hvc'
          have hxu : Ext (· = bq) w14 w16 := (Ext.of_ex hx15).trans hx16
          by_cases e : k = j'
          · subst e
            rw [List.getElem?_set_self (by rw [hP11.three]; exact hk3)] at hq'
            rw [List.getElem?_set_self (by rw [hP11.three']; exact hk3)] at hvc'
            cases hq'; cases hvc'
            exact hch14.ext hxu (fun b hb => hb.2.1)
          · rw [List.getElem?_set_ne e] at hq' hvc'
            exact (hP11.chains j' q' vc' hq' hvc').ext hxE (fun b hb => hb.2.1)
      · have hjn : j = (whichN a).length := by have := of_decide_eq_false h; omega
        subst hjn
        rw [List.take_length] at hP11
        have hb811 : Blk w11 b8 (entF (x, g)) 56 := ((hb87.ex hx79).ex hx10).ext hx11 (by have := hb87.lt; omega)
        (repeat (first | refine cw_skip ?_ | refine cw_exit ?_ | refine qw_then_exit ?_ | refine qw_block_exit ?_ | refine qw_then ?_))
        refine cw_seq ?_
        have hb311 : Blk w11 b3 (encAct a vb vp) 73 := hb310.ext hx11 (by have := hb310.lt; omega)
        refine cw_then_cut (α := Unit) (fun _ => [(2, pB b2), (3, pB b3), (4, pB b4), (7, .int .i64 (i : Nat)), (8, pB b8), (9, .slice (some ⟨bq, 0, none⟩) 3 capq)])
          (fun _ w' => Ext (fun b => b = bq ∨ b = b8) w11 w' ∧ PapsAt (fun b => (A0' b ∨ w.heap.size ≤ b) ∧ (b ≠ bq ∧ b ≠ b8 ∧ b ≠ b2 ∧ b ≠ b4)) w' bq (midP a (onIx (whichN a) (fD a) x.ps)) vcs (cur.toList.drop 9) ∧ Blk w' b8 (entF ({ x with state := midS a x.state }, g)) 56) ?_ ?_
        · unfold pB
          (repeat (first | refine lw_pure hT rfl ?_ | refine cw_seq ?_ | refine cw_region ?_))
          refine lw_load hT rfl rfl (v := .int .i64 a.kind) (hb311.cell 0) ?_
          (repeat (refine lw_pure hT rfl ?_))
          refine lw_guard rfl (fun h2 => ?_) (fun h2 => ?_)
          · have hv : a.kind = 2 ∨ a.kind = 5 := .inl (by simpa using h2)
            (repeat (first | refine lw_pure hT rfl ?_ | refine lw_nil ?_ | refine cw_seq ?_ | refine cw_region ?_ | refine qw_then ?_ | (refine lw_goff_t rfl ?_ ?_; focus with_reducible (first | rfl | exact Bool.not_false | exact Bool.not_true)) | refine cw_block ?_ | (refine cw_cond_t rfl ?_ ?_; focus with_reducible (first | rfl | exact Bool.not_false | exact Bool.not_true))))
            refine cw_loop (fun t : Nat => [(2, .pointer (some ⟨b2, 0, none⟩)), (3, .pointer (some ⟨b3, 0, none⟩)), (4, .pointer (some ⟨b4, 0, none⟩)), (7, .int .i64 (i : Nat)), (8, .pointer (some ⟨b8, 0, none⟩)), (9, .slice (some ⟨bq, 0, none⟩) 3 capq), (13, .int .i64 (t : Nat))])
              (fun t w' => t ≤ 3 ∧ Ext (· = bq) w11 w' ∧ PapsAt (fun b => (A0' b ∨ w.heap.size ≤ b) ∧ (b ≠ bq ∧ b ≠ b8 ∧ b ≠ b2 ∧ b ≠ b4)) w' bq (voided (onIx (whichN a) (fD a) x.ps) t) vcs (cur.toList.drop 9)) (fun t => 3 - t) 0 (by repeat (first | exact trivial | refine ⟨rfl, ?_⟩)) ⟨by omega, Ext.refl _ _, hP11⟩ ?_
            rintro t w12 ⟨ht, hx12, hP12⟩
            (repeat (first | refine lw_pure hT rfl ?_ | refine lw_nil ?_ | refine cw_seq ?_ | refine cw_region ?_ | refine qw_then ?_))
            refine cw_cond rfl (fun h => ?_) (fun h => ?_)
            · have hlt : t < 3 := by have := of_decide_eq_true h; omega
              (repeat (first | refine lw_pure hT rfl ?_ | refine cw_seq ?_ | refine cw_region ?_ | refine qw_then ?_ | refine cw_skip ?_ | refine cw_block ?_))
              refine lw_index hT rfl rfl rfl t rfl hlt ?_
              (repeat (refine lw_pure hT rfl ?_))
              refine lw_store (size := 1) hT rfl rfl rfl rfl hP12.blk (show 0 + t * 3 + 0 < _ by rw [rows_len hP12.three hP12.three']; omega) ?_
              intro w13 hb13 hx13 hs13
              have e : 0 + t * 3 + 0 = t * 3 := by omega
              rw [e] at hb13
              have hP13 := hP12.states (fun b hb => hb.2.1) hlt 2 hx13 hb13
              rw [voided_step hP11.three hlt] at hP13
              (repeat (first | (refine lw_add rfl rfl ?_ ?_ ?_; iterate 2 omega) | refine lw_pure hT rfl ?_ | refine lw_nil ?_ | refine cw_region ?_ | refine qw_then ?_ | refine qw_block ?_))
              exact qw_round (t + 1) (by repeat (first | exact trivial | refine ⟨rfl, ?_⟩)) ⟨hlt, hx12.trans hx13, hP13⟩ (by omega)
            · have : t = 3 := by have := of_decide_eq_false h; omega
              subst this
              rw [voided_3 hP11.three] at hP12
              (repeat (first | refine lw_pure hT rfl ?_ | refine cw_region ?_ | refine qw_then ?_ | refine cw_exit ?_ | refine qw_block_exit ?_ | refine qw_then_exit ?_))
              refine lw_store (size := 1) hT rfl rfl rfl rfl (hb811.ext hx12 (by have := hb87.lt; omega)) (show (9 : Nat) < 11 by decide) ?_
              intro w13 hb13 hx13 hs13
              (repeat (refine lw_nil ?_))
              refine qw_cut () (by repeat (first | exact trivial | refine ⟨rfl, ?_⟩)) ⟨(hx12.mono fun _ _ h => .inl h).trans (hx13.mono fun _ _ h => .inr h), ?_, ?_⟩
              · unfold midP; rw [if_pos hv]
                exact ⟨hP12.three, hP12.three', hP12.blk.ext hx13 (by have := hb87.lt; omega), fun i' q' vc' h1 h2 => (hP12.chains i' q' vc' h1 h2).ext hx13 (fun b hb => hb.2.2.1)⟩
              · unfold midS; rw [if_pos hv]; exact hb13
          · (repeat (first | refine lw_pure hT rfl ?_ | (refine lw_gon_f rfl ?_ ?_; focus with_reducible (first | rfl | exact Bool.not_false | exact Bool.not_true))))
            refine lw_load hT rfl rfl (v := .int .i64 a.kind) (hb311.cell 0) ?_
            (repeat (first | refine lw_pure hT rfl ?_ | refine lw_nil ?_ | refine qw_then ?_ | (refine lw_gon_f rfl ?_ ?_; focus with_reducible (first | rfl | exact Bool.not_false | exact Bool.not_true))))
            refine cw_cond rfl (fun h5 => ?_) (fun h5 => ?_)
            · have hv : a.kind = 2 ∨ a.kind = 5 := .inr (by simpa using h5)
              (repeat (first | refine lw_pure hT rfl ?_ | refine lw_nil ?_ | refine cw_seq ?_ | refine cw_region ?_ | refine qw_then ?_ | refine cw_block ?_))
              refine cw_loop (fun t : Nat => [(2, .pointer (some ⟨b2, 0, none⟩)), (3, .pointer (some ⟨b3, 0, none⟩)), (4, .pointer (some ⟨b4, 0, none⟩)), (7, .int .i64 (i : Nat)), (8, .pointer (some ⟨b8, 0, none⟩)), (9, .slice (some ⟨bq, 0, none⟩) 3 capq), (13, .int .i64 (t : Nat))])
                (fun t w' => t ≤ 3 ∧ Ext (· = bq) w11 w' ∧ PapsAt (fun b => (A0' b ∨ w.heap.size ≤ b) ∧ (b ≠ bq ∧ b ≠ b8 ∧ b ≠ b2 ∧ b ≠ b4)) w' bq (voided (onIx (whichN a) (fD a) x.ps) t) vcs (cur.toList.drop 9)) (fun t => 3 - t) 0 (by repeat (first | exact trivial | refine ⟨rfl, ?_⟩)) ⟨by omega, Ext.refl _ _, hP11⟩ ?_
              rintro t w12 ⟨ht, hx12, hP12⟩
              (repeat (first | refine lw_pure hT rfl ?_ | refine lw_nil ?_ | refine cw_seq ?_ | refine cw_region ?_ | refine qw_then ?_))
              refine cw_cond rfl (fun h => ?_) (fun h => ?_)
              · have hlt : t < 3 := by have := of_decide_eq_true h; omega
                (repeat (first | refine lw_pure hT rfl ?_ | refine cw_seq ?_ | refine cw_region ?_ | refine qw_then ?_ | refine cw_skip ?_ | refine cw_block ?_))
                refine lw_index hT rfl rfl rfl t rfl hlt ?_
                (repeat (refine lw_pure hT rfl ?_))
                refine lw_store (size := 1) hT rfl rfl rfl rfl hP12.blk (show 0 + t * 3 + 0 < _ by rw [rows_len hP12.three hP12.three']; omega) ?_
                intro w13 hb13 hx13 hs13
                have e : 0 + t * 3 + 0 = t * 3 := by omega
                rw [e] at hb13
                have hP13 := hP12.states (fun b hb => hb.2.1) hlt 2 hx13 hb13
                rw [voided_step hP11.three hlt] at hP13
                (repeat (first | (refine lw_add rfl rfl ?_ ?_ ?_; iterate 2 omega) | refine lw_pure hT rfl ?_ | refine lw_nil ?_ | refine cw_region ?_ | refine qw_then ?_ | refine qw_block ?_))
                exact qw_round (t + 1) (by repeat (first | exact trivial | refine ⟨rfl, ?_⟩)) ⟨hlt, hx12.trans hx13, hP13⟩ (by omega)
              · have : t = 3 := by have := of_decide_eq_false h; omega
                subst this
                rw [voided_3 hP11.three] at hP12
                (repeat (first | refine lw_pure hT rfl ?_ | refine cw_region ?_ | refine qw_then ?_ | refine cw_exit ?_ | refine qw_block_exit ?_ | refine qw_then_exit ?_))
                refine lw_store (size := 1) hT rfl rfl rfl rfl (hb811.ext hx12 (by have := hb87.lt; omega)) (show (9 : Nat) < 11 by decide) ?_
                intro w13 hb13 hx13 hs13
                (repeat (refine lw_nil ?_))
                refine qw_cut () (by repeat (first | exact trivial | refine ⟨rfl, ?_⟩)) ⟨(hx12.mono fun _ _ h => .inl h).trans (hx13.mono fun _ _ h => .inr h), ?_, ?_⟩
                · unfold midP; rw [if_pos hv]
                  exact ⟨hP12.three, hP12.three', hP12.blk.ext hx13 (by have := hb87.lt; omega), fun i' q' vc' h1 h2 => (hP12.chains i' q' vc' h1 h2).ext hx13 (fun b hb => hb.2.2.1)⟩
                · unfold midS; rw [if_pos hv]; exact hb13
            · have hv : ¬ (a.kind = 2 ∨ a.kind = 5) := by simp at h2 h5; omega
              (repeat (refine cw_skip ?_))
              refine qw_cut () (by repeat (first | exact trivial | refine ⟨rfl, ?_⟩)) ⟨Ext.refl _ _, ?_, ?_⟩
              · unfold midP; rw [if_neg hv]; exact hP11
              · unfold midS; rw [if_neg hv]; exact hb811
        rintro _ w12 ⟨hx12, hP12, hb812⟩
        have hb312 : Blk w12 b3 (encAct a vb vp) 73 := hb311.ext hx12 (by have := hb310.lt; have := hb35.lt; rintro (h | h) <;> omega)
        refine qw_then ?_
        refine cw_seq ?_
        refine cw_then_cut (α := Unit) (fun _ => [(2, pB b2), (3, pB b3), (4, pB b4), (7, .int .i64 (i : Nat)), (8, pB b8), (9, .slice (some ⟨bq, 0, none⟩) 3 capq)])
          (fun _ w' => Ext (fun b => b = bq ∨ b = b8) w12 w' ∧ PapsAt (fun b => (A0' b ∨ w.heap.size ≤ b) ∧ (b ≠ bq ∧ b ≠ b8 ∧ b ≠ b2 ∧ b ≠ b4)) w' bq (finP a (midP a (onIx (whichN a) (fD a) x.ps))) vcs (cur.toList.drop 9) ∧ Blk w' b8 (entF ({ x with state := finS a (midS a x.state) }, g)) 56) ?_ ?_
        · unfold pB
          (repeat (first | refine lw_pure hT rfl ?_ | refine cw_seq ?_ | refine cw_region ?_))
          refine lw_load hT rfl rfl (v := .int .i64 a.kind) (hb312.cell 0) ?_
          (repeat (first | refine lw_pure hT rfl ?_ | refine lw_nil ?_ | refine qw_then ?_))
          refine cw_cond rfl (fun h2 => ?_) (fun h2 => ?_)
          · have h2 : a.kind = 2 := by simpa using h2
            obtain ⟨k, hk3, ek, ei⟩ : ∃ k : Nat, k < 3 ∧ whichN a = [k] ∧ a.index = (k : Int) := by
              have e1 : whichD a = [a.index] := by unfold whichD; rw [if_neg (by omega)]
              have e2 : whichN a = [a.index.toNat] := by unfold whichN; rw [e1]; rfl
              have e3 := eW
              rw [e1, e2] at e3
              have e4 : a.index = (a.index.toNat : Int) := by simpa using e3
              exact ⟨a.index.toNat, ixs_lt (index := a.ask.index) (by rw [← eI, e2]; simp), e2, e4⟩
            (repeat (first | refine lw_pure hT rfl ?_ | refine cw_seq ?_ | refine cw_region ?_))
            refine lw_load hT rfl rfl (v := .int .i64 a.index) (hb312.cell 1) ?_
            skip
            refine lw_index hT rfl rfl rfl k ei hk3 ?_
            (repeat (refine lw_pure hT rfl ?_))
            refine lw_store (size := 1) hT rfl rfl rfl rfl hP12.blk (show 0 + k * 3 + 0 < _ by rw [rows_len hP12.three hP12.three']; omega) ?_
            intro w13 hb13 hx13 hs13
            have e : 0 + k * 3 + 0 = k * 3 := by omega
            rw [e] at hb13
            have hP13 := hP12.states (fun b hb => hb.2.1) hk3 1 hx13 hb13
            (repeat (first | refine lw_pure hT rfl ?_ | refine lw_nil ?_ | refine cw_region ?_ | refine qw_then ?_))
            refine lw_store (size := 1) hT rfl rfl rfl rfl (hb812.ext hx13 (by have := hb87.lt; omega)) (show (9 : Nat) < 11 by decide) ?_
            intro w14 hb14 hx14 hs14
            (repeat (refine lw_nil ?_))
            refine qw_cut () (by repeat (first | exact trivial | refine ⟨rfl, ?_⟩)) ⟨(hx13.mono fun _ _ h => .inl h).trans (hx14.mono fun _ _ h => .inr h), ?_, ?_⟩
            · have ef : finP a (midP a (onIx (whichN a) (fD a) x.ps)) = onIx [k] (stateP 1) (midP a (onIx (whichN a) (fD a) x.ps)) := by unfold finP; rw [if_pos h2]; congr 1
              rw [ef]
              exact ⟨hP13.three, hP13.three', hP13.blk.ext hx14 (by have := hb87.lt; omega), fun i' q' vc' h1 h2 => (hP13.chains i' q' vc' h1 h2).ext hx14 (fun b hb => hb.2.2.1)⟩
            · unfold finS; rw [if_pos h2]; exact hb14
          · have h2 : ¬ a.kind = 2 := by simpa using h2
            (repeat (refine cw_skip ?_))
            refine qw_cut () (by repeat (first | exact trivial | refine ⟨rfl, ?_⟩)) ⟨Ext.refl _ _, ?_, ?_⟩
            · unfold finP; rw [if_neg h2]; exact hP12
            · unfold finS; rw [if_neg h2]; exact hb812
        rintro _ w13 ⟨hx13, hP13, hb813⟩
        have hx1113 : Ext (fun b => b = bq ∨ b = b8) w11 w13 := hx12.trans hx13
        have hb213 : Blk w13 b2 (encR c (.slice (some ⟨bL, oL, none⟩) l.length cL)) 28 := ((hb29.ex hx10).ext hx11 (by have := hb25.lt; omega)).ext hx1113 (by have := hb25.lt; rintro (h | h) <;> omega)
        unfold pB
        (repeat (first | refine lw_pure hT rfl ?_ | refine cw_seq ?_ | refine cw_region ?_ | refine qw_then ?_))
        refine lw_store (size := 1) hT rfl rfl rfl rfl hb813 (show (10 : Nat) < 11 by decide) ?_
        intro w14 hb814 hx14 hs14
        (repeat (first | refine lw_nil ?_ | refine cw_seq ?_ | refine qw_then ?_))
        have hl59 := hx59.size
        have hl79 := hx79.size
        have hl57 := hx57.size
        have hx514 : Ex w5 w14 := (((hx59.trans hx10).up_new hx11 (fun i h => by omega)).up_new hx1113 (fun i h => by rcases h with h | h <;> omega)).up_new hx14 (fun i h => by omega)
        have hF14 := hF4.ex (hx5.trans hx514)
        have hb214 : Blk w14 b2 (encR c (.slice (some ⟨bL, oL, none⟩) l.length cL)) 28 := hb213.ext hx14 (by have := hb25.lt; omega)
        have hcl0 : l.length ≤ cL := hF14.cap _ _ _ rfl
        obtain ⟨x1, hx1e⟩ : ∃ x1 : EntD, x1 = { x with state := finS a (midS a x.state), ps := finP a (midP a (onIx (whichN a) (fD a) x.ps)) } := ⟨_, rfl⟩
        obtain ⟨g1, hg1e⟩ : ∃ g1 : FG, g1 = { g with vP := .slice (some ⟨bq, 0, none⟩) 3 capq, vcs := vcs } := ⟨_, rfl⟩
        replace hb814 : Blk w14 b8 (entF (x1, g1)) 56 := by rw [hx1e, hg1e]; exact hb814
        have hzl : ((l.zip gs).map entF).length = l.length := by simp [hF.len]
        have hTk := hF14.sl.cutTo (i := i) (by rw [hzl]; omega)
        have hDr := hF14.sl.cutFrom (i := i + 1) (m := l.length - (i + 1)) (by rw [hzl]; omega) (by rw [hzl]) hcl0
        have hTkl : (((l.zip gs).map entF).take i).length = i := by rw [List.length_take, hzl]; omega
        have hDrl : (((l.zip gs).map entF).drop (i + 1)).length = l.length - (i + 1) := by rw [List.length_drop, hzl]
        have hTk1 : ∀ r ∈ ((l.zip gs).map entF).take i, ∀ u ∈ r, u.oneCell' = true := fun r hr => hF14.one r (List.mem_of_mem_take hr)
        have hDr1 : ∀ r ∈ ((l.zip gs).map entF).drop (i + 1), ∀ u ∈ r, u.oneCell' = true := fun r hr => hF14.one r (List.mem_of_mem_drop hr)
        have hP14 : PapsAt (fun b => (A0' b ∨ w.heap.size ≤ b) ∧ (b ≠ bq ∧ b ≠ b8 ∧ b ≠ b2 ∧ b ≠ b4)) w14 bq (finP a (midP a (onIx (whichN a) (fD a) x.ps))) vcs (cur.toList.drop 9) :=
          ⟨hP13.three, hP13.three', hP13.blk.ext hx14 (by have := hb87.lt; omega), fun i' q' vc' h1 h2 => (hP13.chains i' q' vc' h1 h2).ext hx14 (fun b hb => hb.2.2.1)⟩
        have hE14 := hE5.ex hx514
        have hx04s := hx04.size
        have hE1 : FEnt (fun b => (A0' b ∨ w.heap.size ≤ b) ∧ (b ≠ b2 ∧ b ≠ b4)) w14 x1 g1 := by
          rw [hx1e, hg1e]
          refine ⟨hE14.boxes.weaken fun b hb => ⟨.inl hb.1, by have := hb.2; omega, by have := hb.2; omega⟩, hE14.parents.weaken fun b hb => ⟨.inl hb.1, by have := hb.2; omega, by have := hb.2; omega⟩, hP14.three, hP14.three', hP14.sl ⟨.inr (by omega), by omega, by omega⟩, fun j q vc h1 h2 => (hP14.chains j q vc h1 h2).weaken fun b hb => ⟨hb.1, hb.2.2.2.1, hb.2.2.2.2⟩, hE14.bcap⟩
        have hx1one := entF_one hE1
        refine cw_then_cut (α := Value) (fun u => [(2, pB b2), (4, pB b4)]) (fun u w' => ∃ wa, Ex w14 wa ∧ wa.ownsRow w14.heap.size 56 11 u (i + 1 + (l.length - (i + 1))) (((((l.zip gs).map entF).take i).flatten ++ entF (x1, g1)) ++ (((l.zip gs).map entF).drop (i + 1)).flatten) ∧ Ext (· = b2) wa w' ∧ Blk w' b2 (encR c u) 28) ?_ ?_
        · unfold pB
          refine cw_draw hM (fun w' => Ex w14 w') [16] rfl rfl (by repeat with_reducible (first | refine nop_then ?_ | refine nop_block ?_ | exact nop_body)) (fun w15 hx15 _ => ⟨hx15, ?_⟩)
          (refine rw_takeP 1 rfl rfl (by kernel_rfl) (by kernel_rfl) (by kernel_rfl) (by kernel_rfl) rfl (yo_pure hT rfl) ?_)
          refine rw_take 2 rfl rfl (by kernel_rfl) (by kernel_rfl) (by kernel_rfl) (by kernel_rfl) rfl (yo_load hT rfl rfl (v := .slice (some ⟨bL, oL, none⟩) l.length cL) (fun w' hS => Ex.cell hS (hb214.cell 1))) ?_
          (refine rw_takeP 3 rfl rfl (by kernel_rfl) (by kernel_rfl) (by kernel_rfl) (by kernel_rfl) rfl (yo_pure hT rfl) ?_)
          refine rw_takeP 4 rfl rfl (by kernel_rfl) (by kernel_rfl) (by kernel_rfl) (by kernel_rfl) rfl (yo_slice_sl hT rfl rfl rfl rfl 0 i rfl rfl (Nat.zero_le _) (by omega)) ?_
          refine rw_take 6 rfl rfl (by kernel_rfl) (by kernel_rfl) (by kernel_rfl) (by kernel_rfl) rfl (yo_load_agg hT rfl rfl rfl (vs := entF (x1, g1)) (fun w' hS => (hb814.ex hS).rd 0 11)) ?_
          (refine rw_takeP 9 rfl rfl (by kernel_rfl) (by kernel_rfl) (by kernel_rfl) (by kernel_rfl) rfl (yo_pure hT rfl) ?_)
          refine rw_take 10 rfl rfl (by kernel_rfl) (by kernel_rfl) (by kernel_rfl) (by kernel_rfl) rfl (yo_load hT rfl rfl (v := .slice (some ⟨bL, oL, none⟩) l.length cL) (fun w' hS => Ex.cell hS (hb214.cell 1))) ?_
          (refine rw_takeP 11 rfl rfl (by kernel_rfl) (by kernel_rfl) (by kernel_rfl) (by kernel_rfl) rfl (yo_pure hT rfl) ?_)
          refine rw_takeP 12 rfl rfl (by kernel_rfl) (by kernel_rfl) (by kernel_rfl) (by kernel_rfl) rfl (yo_sum rfl rfl (.inl ⟨rfl, rfl⟩) (by omega) (by omega)) ?_
          refine rw_takeP 13 rfl rfl (by kernel_rfl) (by kernel_rfl) (by kernel_rfl) (by kernel_rfl) rfl (yo_slice_sl hT rfl rfl rfl rfl (i + 1) l.length (by omega) rfl (by omega) hcl0) ?_
          refine rw_two 0 7 rfl rfl (by kernel_rfl) rfl rfl (fun hcl => ?_) (fun hcl => ?_)
          · refine lw_buildSlice sl26 rfl rfl rfl ?_
            intro e0 w16 he0 hbe0 hx16 hs16
            have hC16 := hx15.trans hx16
            have own16 : w16.ownsRow w14.heap.size 56 11 (.slice (some ⟨e0, 0, none⟩) 0 0) 0 [] := own_lit hbe0 (by have := hx15.size; omega) rfl (by decide)
            (repeat (refine lw_nil ?_))
            refine qw_rw (by repeat with_reducible (first | refine nop_then ?_ | refine nop_block ?_ | exact nop_body)) hcl (fun _ => hC16) ?_
            refine rw_two 5 7 rfl rfl (by kernel_rfl) rfl rfl (fun hcl => ?_) (fun hcl => ?_)
            · refine lw_append_sl sl26 (by decide) rfl own16 rfl (hTk.ex hC16) hTk1 (by rw [hTkl]; unfold maxLen; omega) (by rw [hTkl]; omega) (by have := hC16.size; omega) ?_
              intro u1 w17 q1 q2 q3 q4
              have hC17 : Ex w14 w17 := hC16.up_new q2 (fun i h => by simp [Value.ownBlock] at h; have := hx15.size; have := hC16.size; omega)
              rw [Nat.zero_add, List.nil_append, hTkl] at q1
              (repeat (refine lw_nil ?_))
              refine qw_rw (by repeat with_reducible (first | refine nop_then ?_ | refine nop_block ?_ | exact nop_body)) hcl (fun _ => hC17) ?_
              refine rw_one 7 rfl (by kernel_rfl) rfl (fun hcl => ?_)
              refine lw_buildSlice sl26 rfl rfl rfl ?_
              intro e7 w18 he7 hbe7 hx18 hs18
              replace hbe7 : Blk w18 e7 (entF (x1, g1)) 56 := hbe7
              have hC18 := hC17.trans hx18
              have own18 := own_ex q1 hx18
              (repeat (refine lw_nil ?_))
              refine qw_rw (by repeat with_reducible (first | refine nop_then ?_ | refine nop_block ?_ | exact nop_body)) hcl (fun _ => hC18) ?_
              refine rw_one 8 rfl (by kernel_rfl) rfl (fun hcl => ?_)
              refine lw_append sl26 (by decide) rfl own18 rfl (hbe7.rd 0 11) rfl hx1one (by unfold maxLen; omega) (by omega) (by have := hC18.size; omega) ?_
              intro u2 w19 k1 k2 k3 k4
              have hC19 : Ex w14 w19 := hC18.up_new k2 (fun i h => (own_base q1 h.symm).1)
              (repeat (refine lw_nil ?_))
              refine qw_rw (by repeat with_reducible (first | refine nop_then ?_ | refine nop_block ?_ | exact nop_body)) hcl (fun _ => hC19) ?_
              refine rw_one 14 rfl (by kernel_rfl) rfl (fun hcl => ?_)
              refine lw_append_sl sl26 (by decide) rfl k1 rfl (hDr.ex hC19) hDr1 (by rw [hDrl]; unfold maxLen; omega) (by rw [hDrl]; omega) (by have := hC19.size; omega) ?_
              intro u3 w20 m1 m2 m3 m4
              have hC20 : Ex w14 w20 := hC19.up_new m2 (fun i h => (own_base k1 h.symm).1)
              rw [hDrl] at m1
              (repeat (refine lw_nil ?_))
              refine qw_rw (by repeat with_reducible (first | refine nop_then ?_ | refine nop_block ?_ | exact nop_body)) hcl (fun _ => hC20) ?_
              (refine rw_takeP 15 rfl rfl (by kernel_rfl) (by kernel_rfl) (by kernel_rfl) (by kernel_rfl) rfl (yo_pure hT rfl) ?_)
              refine rw_one 16 rfl (by kernel_rfl) rfl (fun hcl => ?_)
              refine lw_store (size := 1) hT rfl rfl rfl (own_one m1) (hb214.ex hC20) (show (1 : Nat) < 2 by decide) ?_
              intro w21 hbz hxz hsz
              (repeat (refine lw_nil ?_))
              refine qw_rw (by repeat with_reducible (first | refine nop_then ?_ | refine nop_block ?_ | exact nop_body)) hcl (fun h => absurd h (by decide)) ?_
              refine rw_done (by kernel_rfl) ?_
              skip
              exact qw_cut u3 (by repeat (first | exact trivial | refine ⟨rfl, ?_⟩)) ⟨w20, hC20, m1, hxz, hbz⟩
            · refine lw_buildSlice sl26 rfl rfl rfl ?_
              intro e7 w17 he7 hbe7 hx17 hs17
              replace hbe7 : Blk w17 e7 (entF (x1, g1)) 56 := hbe7
              have hC17 := hC16.trans hx17
              have own17 := own_ex own16 hx17
              (repeat (refine lw_nil ?_))
              refine qw_rw (by repeat with_reducible (first | refine nop_then ?_ | refine nop_block ?_ | exact nop_body)) hcl (fun _ => hC17) ?_
              refine rw_one 5 rfl (by kernel_rfl) rfl (fun hcl => ?_)
              refine lw_append_sl sl26 (by decide) rfl own17 rfl (hTk.ex hC17) hTk1 (by rw [hTkl]; unfold maxLen; omega) (by rw [hTkl]; omega) (by have := hC17.size; omega) ?_
              intro u1 w18 q1 q2 q3 q4
              have hC18 : Ex w14 w18 := hC17.up_new q2 (fun i h => by simp [Value.ownBlock] at h; have := hx15.size; have := hC16.size; omega)
              rw [Nat.zero_add, List.nil_append, hTkl] at q1
              have be18 := hbe7.ext q2 (by simp [Value.ownBlock]; have := hC17.size; omega)
              (repeat (refine lw_nil ?_))
              refine qw_rw (by repeat with_reducible (first | refine nop_then ?_ | refine nop_block ?_ | exact nop_body)) hcl (fun _ => hC18) ?_
              refine rw_one 8 rfl (by kernel_rfl) rfl (fun hcl => ?_)
              refine lw_append sl26 (by decide) rfl q1 rfl (be18.rd 0 11) rfl hx1one (by unfold maxLen; omega) (by omega) (by have := hC18.size; omega) ?_
              intro u2 w19 k1 k2 k3 k4
              have hC19 : Ex w14 w19 := hC18.up_new k2 (fun i h => (own_base q1 h.symm).1)
              (repeat (refine lw_nil ?_))
              refine qw_rw (by repeat with_reducible (first | refine nop_then ?_ | refine nop_block ?_ | exact nop_body)) hcl (fun _ => hC19) ?_
              refine rw_one 14 rfl (by kernel_rfl) rfl (fun hcl => ?_)
              refine lw_append_sl sl26 (by decide) rfl k1 rfl (hDr.ex hC19) hDr1 (by rw [hDrl]; unfold maxLen; omega) (by rw [hDrl]; omega) (by have := hC19.size; omega) ?_
              intro u3 w20 m1 m2 m3 m4
              have hC20 : Ex w14 w20 := hC19.up_new m2 (fun i h => (own_base k1 h.symm).1)
              rw [hDrl] at m1
              (repeat (refine lw_nil ?_))
              refine qw_rw (by repeat with_reducible (first | refine nop_then ?_ | refine nop_block ?_ | exact nop_body)) hcl (fun _ => hC20) ?_
              (refine rw_takeP 15 rfl rfl (by kernel_rfl) (by kernel_rfl) (by kernel_rfl) (by kernel_rfl) rfl (yo_pure hT rfl) ?_)
              refine rw_one 16 rfl (by kernel_rfl) rfl (fun hcl => ?_)
              refine lw_store (size := 1) hT rfl rfl rfl (own_one m1) (hb214.ex hC20) (show (1 : Nat) < 2 by decide) ?_
              intro w21 hbz hxz hsz
              (repeat (refine lw_nil ?_))
              refine qw_rw (by repeat with_reducible (first | refine nop_then ?_ | refine nop_block ?_ | exact nop_body)) hcl (fun h => absurd h (by decide)) ?_
              refine rw_done (by kernel_rfl) ?_
              skip
              exact qw_cut u3 (by repeat (first | exact trivial | refine ⟨rfl, ?_⟩)) ⟨w20, hC20, m1, hxz, hbz⟩
          · refine lw_buildSlice sl26 rfl rfl rfl ?_
            intro e7 w16 he7 hbe7 hx16 hs16
            replace hbe7 : Blk w16 e7 (entF (x1, g1)) 56 := hbe7
            have hC16 := hx15.trans hx16
            (repeat (refine lw_nil ?_))
            refine qw_rw (by repeat with_reducible (first | refine nop_then ?_ | refine nop_block ?_ | exact nop_body)) hcl (fun _ => hC16) ?_
            refine rw_one 0 rfl (by kernel_rfl) rfl (fun hcl => ?_)
            refine lw_buildSlice sl26 rfl rfl rfl ?_
            intro e0 w17 he0 hbe0 hx17 hs17
            have hC17 := hC16.trans hx17
            have own17 : w17.ownsRow w14.heap.size 56 11 (.slice (some ⟨e0, 0, none⟩) 0 0) 0 [] := own_lit hbe0 (by have := hC16.size; omega) rfl (by decide)
            have be17 := hbe7.ex hx17
            (repeat (refine lw_nil ?_))
            refine qw_rw (by repeat with_reducible (first | refine nop_then ?_ | refine nop_block ?_ | exact nop_body)) hcl (fun _ => hC17) ?_
            refine rw_one 5 rfl (by kernel_rfl) rfl (fun hcl => ?_)
            refine lw_append_sl sl26 (by decide) rfl own17 rfl (hTk.ex hC17) hTk1 (by rw [hTkl]; unfold maxLen; omega) (by rw [hTkl]; omega) (by have := hC17.size; omega) ?_
            intro u1 w18 q1 q2 q3 q4
            have hC18 : Ex w14 w18 := hC17.up_new q2 (fun i h => by simp [Value.ownBlock] at h; have := hx15.size; have := hC16.size; omega)
            rw [Nat.zero_add, List.nil_append, hTkl] at q1
            have be18 := be17.ext q2 (by simp [Value.ownBlock]; have := hC17.size; omega)
            (repeat (refine lw_nil ?_))
            refine qw_rw (by repeat with_reducible (first | refine nop_then ?_ | refine nop_block ?_ | exact nop_body)) hcl (fun _ => hC18) ?_
            refine rw_one 8 rfl (by kernel_rfl) rfl (fun hcl => ?_)
            refine lw_append sl26 (by decide) rfl q1 rfl (be18.rd 0 11) rfl hx1one (by unfold maxLen; omega) (by omega) (by have := hC18.size; omega) ?_
            intro u2 w19 k1 k2 k3 k4
            have hC19 : Ex w14 w19 := hC18.up_new k2 (fun i h => (own_base q1 h.symm).1)
            (repeat (refine lw_nil ?_))
            refine qw_rw (by repeat with_reducible (first | refine nop_then ?_ | refine nop_block ?_ | exact nop_body)) hcl (fun _ => hC19) ?_
            refine rw_one 14 rfl (by kernel_rfl) rfl (fun hcl => ?_)
            refine lw_append_sl sl26 (by decide) rfl k1 rfl (hDr.ex hC19) hDr1 (by rw [hDrl]; unfold maxLen; omega) (by rw [hDrl]; omega) (by have := hC19.size; omega) ?_
            intro u3 w20 m1 m2 m3 m4
            have hC20 : Ex w14 w20 := hC19.up_new m2 (fun i h => (own_base k1 h.symm).1)
            rw [hDrl] at m1
            (repeat (refine lw_nil ?_))
            refine qw_rw (by repeat with_reducible (first | refine nop_then ?_ | refine nop_block ?_ | exact nop_body)) hcl (fun _ => hC20) ?_
            (refine rw_takeP 15 rfl rfl (by kernel_rfl) (by kernel_rfl) (by kernel_rfl) (by kernel_rfl) rfl (yo_pure hT rfl) ?_)
            refine rw_one 16 rfl (by kernel_rfl) rfl (fun hcl => ?_)
            refine lw_store (size := 1) hT rfl rfl rfl (own_one m1) (hb214.ex hC20) (show (1 : Nat) < 2 by decide) ?_
            intro w21 hbz hxz hsz
            (repeat (refine lw_nil ?_))
            refine qw_rw (by repeat with_reducible (first | refine nop_then ?_ | refine nop_block ?_ | exact nop_body)) hcl (fun h => absurd h (by decide)) ?_
            refine rw_done (by kernel_rfl) ?_
            skip
            exact qw_cut u3 (by repeat (first | exact trivial | refine ⟨rfl, ?_⟩)) ⟨w20, hC20, m1, hxz, hbz⟩
        rintro u w15 ⟨wa, hxa, how, hxb, hb215⟩
        unfold pB
        (repeat (first | refine cw_seq ?_ | refine cw_region ?_ | refine qw_then ?_))
        refine lw_load_agg hT rfl rfl rfl (vs := encR c u) (hb215.rd 0 2) ?_
        skip
        have hua := fun k (hk : Value.ownBlock u = some k) => own_base how hk
        have hla := hxa.size
        have hlb := hxb.size
        have hl514 := hx514.size
        have hb4w : Blk w15 b4 _ 28 := ((hb45.ex hx514).ex hxa).ext hxb (by omega)
        refine lw_store_agg hT rfl rfl rfl rfl (by intro v hv; simp [encR] at hv; rcases hv with rfl | rfl <;> first | rfl | exact own_one how) hb4w (show (2 : Nat) ≤ 2 by decide) ?_
        intro w16 hb16 hx16 hs16
        (repeat (first | refine lw_pure hT rfl ?_ | refine lw_nil ?_ | refine qw_then ?_ | refine cw_ret ?_))
        have hx0a : Ex w wa := (hx04.trans (hx5.trans hx514)).trans hxa
        have hx0b : Ex w w15 := hx0a.up_new hxb (fun i h => by omega)
        have hx0c : Ex w w16 := hx0b.up_new hx16 (fun i h => by omega)
        refine qw_ret_cell hT rfl rfl rfl rfl (vs := encR c u) (hb16.rd 0 2) rfl ⟨⟨u, gs.set i g1, rfl, ?_⟩, hx0c⟩
        have hnum : a.bill = x.bill.number := by
          have := List.find?_some hat
          rw [hxi]; exact of_decide_eq_true this
        have eupd : (RegD.upd ⟨c, l⟩ a.bill (·.after a)).l = l.set i x1 := by
          rw [upd_set' (r := ⟨c, l⟩) (i := i) (x := x) hx_ hnum hN, after_eq hk1 eI eN, hx1e]
        rw [eupd]
        have hs2 : Ext (fun k => k = b2 ∨ k = b4) wa w16 := (hxb.mono fun _ _ h => .inl h).trans (hx16.mono fun _ _ h => .inr h)
        refine FRep.changed hF.len hil (own_ext how hs2 (fun k hk e => by have := hua k hk; rcases e with e | e <;> omega)) (fun k hk => .inr (by have := hua k hk; omega)) ?_ ?_
        · intro j y v _ hy hv
          exact ((hF.ents j y v hy hv).ex hx0c).weaken fun b hb => .inl hb
        · exact ((hE1.ex hxa).ext hs2 (fun b hb e => by rcases e with e | e <;> simp_all)).weaken fun b hb => hb.1
end Go.Proofs.YtnglkhnfmbnfeaaGreat
namespace Go.Proofs.YtnglkhnfmbnfeaaGreat
open Go Go.SK
def TxtO (N : Nat) (w : World) (u : Value) (l : List ByteArray) : Prop := w.ownsRow N 9 1 u l.length (l.map Value.string) ∧ ∃ g c, u = .slice (some ⟨g, 0, none⟩) l.length c ∧ l.length ≤ c
theorem TxtO.ex {N : Nat} {w w' : World} {u : Value} {l : List ByteArray} (h : TxtO N w u l) (hx : Ex w w') : TxtO N w' u l := ⟨own_ex h.1 hx, h.2⟩
theorem TxtO.sls {N : Nat} {w : World} {u : Value} {l : List ByteArray} (h : TxtO N w u l) : SlS (fun _ => True) w u l := sls_own h.1 fun _ _ => trivial
theorem txt_put {N : Nat} {w w' : World} {u : Value} {l : List ByteArray} (hN : N ≤ w.heap.size) {s : ByteArray} (h : w'.ownsRow w.heap.size 9 1 u (l.length + 1) ((putL l s).map Value.string)) : TxtO N w' u (putL l s) := by
  have e : (putL l s).length = l.length + 1 := putL_len l s
  obtain ⟨g, c, rfl⟩ := own_slice h (by omega)
  unfold TxtO
  rw [e]
  exact ⟨own_mono h hN, g, c, rfl, own_cap h _ _ _ rfl⟩
end Go.Proofs.YtnglkhnfmbnfeaaGreat
namespace Go.SK
open Go
attribute [local semireducible] Ret
theorem ret_mk {P : Program} {f : FuncId} {args : List Value} {w : World} {R : Value → World → Prop} (h : Calls P f ⟨args⟩ w fun e w' => ∃ v, e = .returned v ∧ R v w') : Ret P f args w R := h
theorem ex_of_below {w w' : World} (h : Go.RowKit.Below w.heap.size w w') : Ex w w' := by
  obtain ⟨h1, h2, h3, h4, h5⟩ := h
  exact ⟨h1, h2, h3, h4, fun k hk _ => h5 k hk⟩
end Go.SK
namespace Go.Proofs.YtnglkhnfmbnfeaaGreat
open Go Go.SK Go.RowKit Go.Maps Go.Sort Go.Shelf
theorem sorts_at (m : Nat) : AnyZ.SortsIn Tryz.prog Tryz.sorted48_ren Fence.wide m :=
  ⟨fun blk off cap ss W hH hblk hsz => callsIn_wide.2 (AnyM.slices_Sort_string Tryz.sort96 blk off cap ss W hH hblk hsz),
   fun p cap W => callsIn_wide.2 (AnyM.slices_Sort_string_none Tryz.sort96 p cap W)⟩
structure Mw (w : World) (b : Nat) (es : List (ByteArray × Value)) : Prop where
  is : ∃ ents clock, w.heap[b]? = some (.map ents clock) ∧ ents.toList.map (fun e => (e.key, e.val)) = es.map (fun e => (Value.string e.1, e.2)) ∧ (∀ x ∈ ents.toList, x.born < clock) ∧ (ents.toList.map (·.born)).Nodup
theorem Mw.of {w : World} {b : Nat} {es : List (ByteArray × Value)} (h : Mp w b es) : Mw w b es := by
  obtain ⟨ents, clock, h1, h2, h3, h4⟩ := h.is
  refine ⟨ents, clock, h1, h2, fun x hx => ?_, by rw [h3]; exact List.nodup_range⟩
  have : x.born ∈ ents.toList.map (·.born) := List.mem_map.2 ⟨x, hx, rfl⟩
  rw [h3] at this
  rw [h4]; simpa using this
theorem owns_ofW {w : World} {m : Nat} {es : List (ByteArray × Value)} (hm : Mw w m es) (hk : ∀ e ∈ es, e.1.size ≤ maxLen) (hn : es.length ≤ maxLen) (hd : (es.map (·.1)).Nodup) :
    ∃ D : DataW Unit, w.ownsMap Tryz.prog 9 (fun _ => some (.nil, [])) m es.length D ∧ Maps.size D = es.length ∧ (strKeys D).Perm (es.map fun e => e.1.data.toList) := by
  obtain ⟨ents, clock, h1, h2, h3, h4⟩ := hm.is
  have us : Tryz.prog.underlying 9 = some .string := by kernel_rfl
  have hkeys : ents.toList.map (·.key) = es.map fun e => Value.string e.1 := by
    have := congrArg (List.map (·.1)) h2
    rw [List.map_map, List.map_map] at this
    exact this
  have hlen : ents.size = es.length := by have := congrArg List.length h2; simpa using this
  have hmem : ∀ x ∈ ents.toList, ∃ e ∈ es, x.key = .string e.1 := by
    intro x hx
    have : x.key ∈ ents.toList.map (·.key) := List.mem_map.2 ⟨x, hx, rfl⟩
    rw [hkeys] at this
    obtain ⟨e, he, hek⟩ := List.mem_map.1 this
    exact ⟨e, he, hek.symm⟩
  have hko : ∀ s : ByteArray, s.size ≤ maxLen → keyOf Tryz.prog 9 (.string s) = some (.string s.data.toList) := by
    intro s hs
    simp [keyOf, us, mapKey, hs]
  have hrd : ∀ x ∈ ents.toList, ∀ e ∈ es, x.key = .string e.1 → Go.WideElems.rd (H := Unit) Tryz.prog 9 (fun _ => some (.nil, [])) x = some (.string e.1.data.toList, .nil) := by
    intro x _ e he hx
    unfold Go.WideElems.rd
    rw [hx, hko _ (hk e he)]
    rfl
  have hfit : Go.WideElems.Fit (H := Unit) Tryz.prog 9 (fun _ => some (.nil, [])) ents clock := by
    refine ⟨by rw [hlen]; exact hn, ⟨?_, ?_, ?_⟩, ?_⟩
    · intro x hx
      exact h3 x hx
    · exact h4
    · rw [hkeys]
      have : (es.map fun e => Value.string e.1) = (es.map (·.1)).map Value.string := by simp
      rw [this]
      exact List.pairwise_map.2 (List.Pairwise.imp (fun hne e => hne (by injection e)) hd)
    · intro x hx
      obtain ⟨e, he, hxe⟩ := hmem x hx
      exact ⟨_, hrd x hx e he hxe⟩
  refine ⟨_, ⟨ents, clock, h1, hfit, by omega, rfl⟩, ?_, ?_⟩
  · show ((ents.toList.map _).foldr DataW.insert []).length = es.length
    rw [(Go.WideShapes.sorted_perm _).length_eq]
    simp [hlen]
  · show (((ents.toList.map _).foldr DataW.insert []).map fun p => strOf p.1).Perm _
    refine ((Go.WideShapes.sorted_perm _).map _).trans ?_
    have e1 : ((ents.toList.map (Go.WideElems.rg (H := Unit) Tryz.prog 9 fun _ => some (.nil, []))).map fun p => strOf p.1) = es.map fun e => e.1.data.toList := by
      have e2 : ((ents.toList.map (Go.WideElems.rg (H := Unit) Tryz.prog 9 fun _ => some (.nil, []))).map fun p => strOf p.1) = (ents.toList.map (·.key)).map fun v => match v with | .string s => s.data.toList | _ => [] := by
        rw [List.map_map, List.map_map]
        apply List.map_congr_left
        intro x hx
        obtain ⟨e, he, hxe⟩ := hmem x hx
        simp only [Function.comp, Go.WideElems.rg, hrd x hx e he hxe, Option.getD_some, hxe]
        rfl
      rw [e2, hkeys, List.map_map]
      rfl
    rw [e1]
def ofBytes (l : List UInt8) : ByteArray := ⟨l.toArray⟩
theorem ofBytes_inv (s : ByteArray) : ofBytes s.data.toList = s := by unfold ofBytes; simp
end Go.Proofs.YtnglkhnfmbnfeaaGreat
namespace Go.Proofs.YtnglkhnfmbnfeaaGreat
open Go Go.RowKit Go.Maps Go.Sort Go.Shelf
section
variable {P : Program} {ρ : Ren}
def SeqB {α : Type} (F : Fence) (n : Nat) (P : Program) (g : Nat) (lb : Array Value) (enc : α → Value) (S : List α → Prop) (N : Nat) (w : World) : Prop :=
  ∀ (l : Nat) (J : List α → World → Prop) (W : World), Below w.heap.size w W → AbidesFrom W.heap.size J → (∀ s W1, J s W1 → Below w.heap.size w W1) →
    (∀ pre x W1, J pre W1 → pre.length < N → YieldAt F (n - 1) P l #[enc x] W1 fun e W' => e = .returned (.bool true) ∧ J (pre ++ [x]) W' ∧ KeepsWalks W1 W') →
    J [] W →
    CallsIn F n P g (#[.func (.yield l) #[] #[]] ++ lb) W fun e W' => (∃ v, e = .returned v) ∧ ∃ xs, S xs ∧ J xs W'
theorem SeqB.bounded {α : Type} {F : Fence} {n : Nat} {P : Program} {g : Nat} {lb : Array Value} {enc : α → Value} {S : List α → Prop} {N : Nat} {w : World}
    (h : SeqB F n P g lb enc S N w) : SeqB F n P g lb enc (fun xs => S xs ∧ xs.length ≤ N) N w := fun l J W hW hJ hB hY h0 => by
  refine (h l (fun xs W' => J xs W' ∧ xs.length ≤ N) W hW (fun s A B row hs hg hr => ⟨hJ s A B row hs.1 hg hr, hs.2⟩) (fun s W1 hs => hB s W1 hs.1)
    (fun pre x W1 hj hl => (hY pre x W1 hj.1 hl).mono (fun e w' hr => ⟨hr.1, ⟨hr.2.1, by simp; omega⟩, hr.2.2⟩)) ⟨h0, Nat.zero_le _⟩).mono ?_
  rintro e W' ⟨hv, xs, hS, hJ', hlen⟩
  exact ⟨hv, xs, ⟨hS, hlen⟩, hJ'⟩
set_option maxRecDepth 100000 in
set_option maxHeartbeats 2000000 in
theorem appendSeqB_in (L : SlLaysZ.n11 P ρ) (F : Fence) (n : Nat) (h11 : F.fn (ρ.f 11)) (hro : F.round = none) (hn : 2 ≤ n) (g : Nat) (lb : Array Value) (hFg : F.fn g) (eg : ∀ args w, (callFunc g args).run P w = .ok (.enter g args) w)
    (S : List (List UInt8) → Prop) (N : Nat) (hN : N ≤ maxLen) (hNb : N * 16 ≤ 140737488355328) (w : World) (hseq : SeqB F (n - 1) P g lb encStr S N w) :
    CallsIn F n P (ρ.f 11) #[.slice none 0 0, .func (.func g) #[] lb] w fun e w' => ∃ (v : Value) (ss : List (List UInt8)), e = .returned v ∧ S ss ∧ w'.ownsRow w.heap.size (ρ.t 26) 1 v ss.length (ss.map encStr) ∧ (v = .slice none 0 0 ↔ ss = []) ∧ Below w.heap.size w w' := by
  have h1 : 1 ≤ n := by omega
  have mixed := L.mixed; have t0 := L.t0; have a0 := L.a0; have z0 := L.z0; have v0 := L.v0; have t24 := L.t24; have a24 := L.a24; have z24 := L.z24; have v24 := L.v24; have t26 := L.t26; have a26 := L.a26; have z26 := L.z26; have v26 := L.v26; have t28 := L.t28; have a28 := L.a28; have z28 := L.z28; have v28 := L.v28
  have hne : ρ.t 24 ≠ ρ.t 26 := fun e => by have h := L.t24; rw [e, L.t26] at h; cases h
  have u0 := run_underlying L.t0; have u24 := run_underlying L.t24; have u26 := run_underlying L.t26; have u28 := run_underlying L.t28
  obtain ⟨_, _, FG⟩ := L.f11
  refine callsIn_of_wp_marks FG rfl h11 ?_ hro
  simp only [SlBodyZ.n11_ntmps ρ, List.size_toArray, List.length_cons, List.length_nil, Nat.reduceAdd, Nat.reduceSub, Array.replicate_succ, Array.replicate_zero, List.push_toArray, List.append_toArray, List.nil_append, List.cons_append]
  gi_wp2
  refine wpIn_rangeFunc ?_
  intro fn hfn
  rw [hro]
  obtain ⟨W0, hW0⟩ : ∃ W0, w.alloc (.cells #[.slice none 0 0] (ρ.t 24)) = W0 := ⟨_, rfl⟩
  have hs0 : W0.heap.size = w.heap.size + 1 := by rw [← hW0]; simp
  have hv0 : W0.heap[w.heap.size]? = some (.cells #[.slice none 0 0] (ρ.t 24) (0, 0)) := by rw [← hW0]; exact World.alloc_heap_new w _
  have hb0 : Below w.heap.size w W0 := by rw [← hW0]; exact (Below.refl _ w).alloc (Nat.le_refl _) _
  rw [hW0]
  obtain ⟨W1, hW1⟩ : ∃ W1, (W0.alloc (.deferred (some []))).alloc (.loop (AnyZ.apRec ρ fn (.func (.func g) #[] lb) w.heap.size W0.heap.size .ready none)) = W1 := ⟨_, rfl⟩
  have hold : ∀ k, k < W0.heap.size → W1.heap[k]? = W0.heap[k]? := fun k hk => by
    rw [← hW1]; exact (Below.heap_alloc _ _ k (by simp; omega)).trans (Below.heap_alloc _ _ k hk)
  have hb1 : Below w.heap.size w W1 := by rw [← hW1]; exact (hb0.alloc hb0.size _).alloc (by have := hb0.size; simp; omega) _
  have hs1 : W1.heap.size = W0.heap.size + 2 := by rw [← hW1]; simp
  have hM : AnyZ.ApAt ρ w fn (.func (.func g) #[] lb) w.heap.size (W0.heap.size + 1) W0.heap.size [] W1 :=
    ⟨⟨_, (hold w.heap.size (by omega)).trans hv0, ⟨rfl, .inl ⟨rfl, rfl⟩⟩, by simp⟩,
     by rw [← hW1]; have := World.alloc_heap_new (W0.alloc (.deferred (some []))) (.loop (AnyZ.apRec ρ fn (.func (.func g) #[] lb) w.heap.size W0.heap.size .ready none)); rwa [World.size_alloc] at this,
     by rw [← hW1]; exact (Below.heap_alloc _ _ _ (by simp)).trans (World.alloc_heap_new W0 _), hb1⟩
  refine ⟨W0.heap.size + 1, [{ target := .collected W0.heap.size, args := #[] }], W1, { target := .fn (.func g) lb, args := #[.func (.yield (W0.heap.size + 1)) #[] #[]] }, W1, g,
    #[.func (.yield (W0.heap.size + 1)) #[] #[]] ++ lb, W1, ?_, ?_, ?_, ?_, fun _ => h1, ?_⟩
  · rw [← hW1]; exact run_enterLoop_outer _ _ _ _ _
  · simp [resolve, go_sem]
  · intro f' hf'; simp [Target.leads] at hf'; subst hf'; exact hFg
  · simp [invoke, go_sem, eg]
  · refine (hseq (W0.heap.size + 1) (AnyZ.ApAt ρ w fn (.func (.func g) #[] lb) w.heap.size (W0.heap.size + 1) W0.heap.size) W1 hb1 (AnyZ.ap_abides ρ _ _ _ _ _ _ _ hb1.size) (fun s W1 hs => hs.below)
      (fun pre x W hJ hl => AnyZ.apYield { L with } F (n - 1 - 1) w fn hfn _ w.heap.size (W0.heap.size + 1) W0.heap.size (by omega) (by omega) (by omega) (Nat.le_refl _) (by omega) N hN hNb pre x W hJ hl) hM).mono ?_
    rintro e W2 ⟨⟨v0, rfl⟩, ss, hS, h2⟩
    obtain ⟨v, hv, hrow, hnil⟩ := h2.box
    have hend := run_endLoop (P := P) h2.L (by simp [AnyZ.apRec])
    obtain ⟨W3, hW3⟩ : ∃ W3, W2.putObj (W0.heap.size + 1) (.loop { AnyZ.apRec ρ fn (.func (.func g) #[] lb) w.heap.size W0.heap.size .ready none with state := .exhausted }) = W3 := ⟨_, rfl⟩
    rw [hW3] at hend
    have hg3 : W2.grownBy W3 (some (W0.heap.size + 1)) := by rw [← hW3]; exact grownBy_putObj_a _ _ _
    have hv3 : W3.heap[w.heap.size]? = some (.cells #[v] (ρ.t 24) (0, 0)) := by rw [← hW3]; exact (World.putObj_heap_other (by omega)).trans hv
    have hK3 : W3.heap[W0.heap.size]? = some (.deferred (some [])) := by rw [← hW3]; exact (World.putObj_heap_other (by omega)).trans h2.K
    have hrow3 := hrow.kept hg3 (ownsRow_ne_a hrow h2.L (fun cur e => by first | cases e | exact hne (Obj.cells.inj e).2.1))
    have hb3 : Below w.heap.size w W3 := h2.below.grown hg3 h2.below.size (fun k e => by cases e; omega)
    obtain ⟨hc3, hf3⟩ := cell_of_box_a hv3
    clear hW3
    refine ⟨none, W3, hend, ?_⟩
    gi_wp2
    rw [← hs0]
    refine ⟨by simp, .inl ⟨_, _, rfl, run_takeDeferred hK3, ?_⟩⟩
    exact ⟨_, results_tmp rfl _ _ _, v, ss, rfl, hS, hrow3.kept (grownBy_putObj_a _ _ _) (ownsRow_ne_a hrow3 hK3 (fun cur e => by first | cases e | exact hne (Obj.cells.inj e).2.1)), hnil, hb3.grown (grownBy_putObj_a _ _ _) hb3.size (fun k e => by cases e; omega)⟩
set_option maxHeartbeats 1000000 in
theorem collectB_in (L : SlLaysZ.n8 P ρ) (F : Fence) (n : Nat) (h8 : F.fn (ρ.f 8)) (h11 : F.fn (ρ.f 11)) (hro : F.round = none) (hn : 3 ≤ n) (g : Nat) (lb : Array Value) (hFg : F.fn g) (eg : ∀ args w, (callFunc g args).run P w = .ok (.enter g args) w)
    (S : List (List UInt8) → Prop) (N : Nat) (hN : N ≤ maxLen) (hNb : N * 16 ≤ 140737488355328) (w : World) (hseq : SeqB F (n - 1 - 1) P g lb encStr S N w) :
    CallsIn F n P (ρ.f 8) #[.func (.func g) #[] lb] w fun e w' => ∃ (v : Value) (ss : List (List UInt8)), e = .returned v ∧ S ss ∧ w'.ownsRow w.heap.size (ρ.t 26) 1 v ss.length (ss.map encStr) ∧ (v = .slice none 0 0 ↔ ss = []) ∧ Below w.heap.size w w' := by
  have h1 : 1 ≤ n := by omega
  have e11 : ∀ args w, (callFunc (ρ.f 11) args).run P w = .ok (.enter (ρ.f 11) args) w := L.f11.enters rfl
  have mixed := L.mixed; have t0 := L.t0; have a0 := L.a0; have z0 := L.z0; have v0 := L.v0; have t24 := L.t24; have a24 := L.a24; have z24 := L.z24; have v24 := L.v24; have t26 := L.t26; have a26 := L.a26; have z26 := L.z26; have v26 := L.v26; have t28 := L.t28; have a28 := L.a28; have z28 := L.z28; have v28 := L.v28
  have u0 := run_underlying L.t0; have u24 := run_underlying L.t24; have u26 := run_underlying L.t26; have u28 := run_underlying L.t28
  obtain ⟨_, _, FG⟩ := L.f8
  refine callsIn_of_wp FG rfl h8 ?_ hro
  simp only [SlBodyZ.n8_ntmps ρ, List.size_toArray, List.length_cons, List.length_nil, Nat.reduceAdd, Nat.reduceSub, Array.replicate_succ, Array.replicate_zero, List.push_toArray, List.append_toArray, List.nil_append, List.cons_append]
  gi_wp2_with (gi_at_fn (ρ.f 11); refine (appendSeqB_in { L with } F (n - 1) h11 hro (by omega) g lb hFg eg S N hN hNb _ hseq).mono ?_; rintro e w' ⟨v, ss, rfl, hS, hrow, hnil, hb⟩)
  go_ret
  exact ⟨v, ss, rfl, hS, hrow, hnil, hb⟩
set_option maxRecDepth 100000 in
set_option maxHeartbeats 2000000 in
theorem sortedB_in (L : SlLaysZ.n6 P ρ) (F : Fence) (n : Nat) (h6 : F.fn (ρ.f 6)) (h8 : F.fn (ρ.f 8)) (h9 : F.fn (ρ.f 9)) (h11 : F.fn (ρ.f 11)) (hro : F.round = none) (hn : 4 ≤ n) (hsort : AnyZ.SortsIn P ρ F (n - 1)) (e9 : ∀ args w, (callFunc (ρ.f 9) args).run P w = .ok (.enter (ρ.f 9) args) w) (g : Nat) (lb : Array Value) (hFg : F.fn g) (eg : ∀ args w, (callFunc g args).run P w = .ok (.enter g args) w)
    (S : List (List UInt8) → Prop) (N : Nat) (hN : N ≤ maxLen) (hNb : N * 16 ≤ 140737488355328) (w : World) (hseq : SeqB F (n - 1 - 1 - 1) P g lb encStr S N w) :
    CallsIn F n P (ρ.f 6) #[.func (.func g) #[] lb] w fun e w' => ∃ (v : Value) (ss : List (List UInt8)), e = .returned v ∧ S ss ∧
      w'.ownsRow w.heap.size (ρ.t 26) 1 v ss.length ((ss.mergeSort (fun x y => decide (x ≤ y))).map encStr) ∧ (v = .slice none 0 0 ↔ ss = []) ∧ Below w.heap.size w w' := by
  have h1 : 1 ≤ n := by omega
  have e8 : ∀ args w, (callFunc (ρ.f 8) args).run P w = .ok (.enter (ρ.f 8) args) w := L.f8.enters rfl
  have mixed := L.mixed; have t0 := L.t0; have a0 := L.a0; have z0 := L.z0; have v0 := L.v0; have t24 := L.t24; have a24 := L.a24; have z24 := L.z24; have v24 := L.v24; have t26 := L.t26; have a26 := L.a26; have z26 := L.z26; have v26 := L.v26; have t28 := L.t28; have a28 := L.a28; have z28 := L.z28; have v28 := L.v28
  have u0 := run_underlying L.t0; have u24 := run_underlying L.t24; have u26 := run_underlying L.t26; have u28 := run_underlying L.t28
  obtain ⟨_, _, FG⟩ := L.f6
  refine callsIn_of_wp FG rfl h6 ?_ hro
  simp only [SlBodyZ.n6_ntmps ρ, List.size_toArray, List.length_cons, List.length_nil, Nat.reduceAdd, Nat.reduceSub, Array.replicate_succ, Array.replicate_zero, List.push_toArray, List.append_toArray, List.nil_append, List.cons_append]
  gi_wp2_with (gi_at_fn (ρ.f 8); refine (collectB_in { L with } F (n - 1) h8 h11 hro (by omega) g lb hFg eg _ N hN hNb _ hseq.bounded).mono ?_; rintro e W ⟨v, ss, rfl, ⟨hS, hlen⟩, hrow, hnil, hb⟩)
  rcases hrow.2 with ⟨rfl, hz⟩ | ⟨gb, cap, cur, rfl, hbase, hgb, r1, r2, r3, r4⟩
  · -- nothing came: the nil slice is sorted and handed back
    have hss : ss = [] := List.eq_nil_of_length_eq_zero hz
    subst hss
    gi_wp2_with (gi_at_fn (ρ.f 9); refine (hsort.2 none 0 W).mono ?_; rintro e w' ⟨rfl, rfl⟩)
    go_ret
    exact ⟨.slice none 0 0, [], rfl, hS, by simpa using hrow, by simp, hb⟩
  · have hH : Holds encStr W gb 0 ss.toArray := holds_of_block hgb (by simpa using r4)
    have hgl : gb < W.heap.size := (Array.getElem?_eq_some_iff.1 hgb).1
    have hsz : ss.length < 4611686018427387904 := by omega
    have cS := hsort.1 gb 0 cap ss W hH hgl hsz
    gi_wp2_with (gi_at_fn (ρ.f 9); refine cS.mono ?_; rintro e w' ⟨rfl, nn, os, rfl⟩)
    go_ret
    exact ⟨_, ss, rfl, hS, ownsRow_sorted (by simp) hbase hgb r1 r2 r3, hnil, hb.grown (grownBy_sorted _) hb.size (fun j hj => by cases hj; exact hbase)⟩
end
end Go.Proofs.YtnglkhnfmbnfeaaGreat
namespace Go.Proofs.YtnglkhnfmbnfeaaGreat
open Go Go.SK Go.RowKit Go.Maps Go.Sort Go.Shelf
attribute [local go_sem] Oper.semAt_some
def toL (s : ByteArray) : List UInt8 := s.data.toList
theorem encStr_toL (s : ByteArray) : encStr (toL s) = .string s := by
  unfold encStr toL
  congr 1
set_option maxRecDepth 100000 in
set_option maxHeartbeats 2000000 in
theorem vals1_in (F : Fence) (n : Nat) (h7 : F.fn 132) (hro : F.round = none) (hn : 1 ≤ n) (l Bs b off cap : Nat) (zs : List ByteArray) (hreach : zs.length * 16 ≤ 140737488351232) (w : World) (hb : b < w.heap.size) (J : List (List UInt8) → World → Prop)
    (hB : ∀ s W1, J s W1 → Below w.heap.size w W1)
    (hY : ∀ pre x W, J pre W → pre.length < zs.length → YieldAt F (n - 1) Tryz.prog l #[encStr x] W fun e W' => e = .returned (.bool true) ∧ J (pre ++ [x]) W' ∧ KeepsWalks W W')
    (W : World) (hBs : W.cell? ⟨Bs, 0, none⟩ = some (.slice (some ⟨b, off, none⟩) zs.length cap)) (hc : ∀ j (hj : j < zs.length), w.cell? ⟨b, off + j, none⟩ = some (.string zs[j])) (h0 : J [] W) :
    CallsIn F n Tryz.prog 132 #[.func (.yield l) #[] #[], .pointer (some ⟨Bs, 0, none⟩)] W fun e W' => (∃ v, e = .returned v) ∧ J (zs.map toL) W' := by
  refine callsIn_of_wp Tryz.func132 rfl h7 ?_ hro
  simp only [Tryz.ntmps132, List.size_toArray, List.length_cons, List.length_nil, Nat.reduceAdd, Nat.reduceSub, Array.replicate_succ, Array.replicate_zero, List.push_toArray, List.append_toArray, List.nil_append, List.cons_append]
  obtain ⟨len, hlen⟩ : ∃ len, len = zs.length := ⟨_, rfl⟩
  rw [← hlen] at hBs hreach hY
  gi_wp2
  gi_loopw [7] (fun i wr => ∃ k : Nat, k ≤ len ∧ i = .int .i64 k ∧ J ((zs.take k).map toL) wr)
    (fun i _ => len - (intOf i).toNat)
  case atStart => exact ⟨0, Nat.zero_le _, rfl, by simpa using h0⟩
  case round =>
    obtain ⟨k, hk, rfl, hJs⟩ := hrel
    by_cases hlt : k < len
    · have hz : k < zs.length := by omega
      have hcx' : wr.cell? ⟨b, off + k, none⟩ = some (encStr (toL zs[k])) := ((hB _ _ hJs).cell (p := ⟨b, off + k, none⟩) hb).trans ((hc k hz).trans (by rw [encStr_toL]))
      obtain ⟨fn, tmps, assign, body, hy, hR⟩ := hY _ (toL zs[k]) wr hJs (by rw [List.length_map, List.length_take]; omega)
      gi_wp2
      refine hR.mono ?_
      rintro e W3 ⟨rfl, hJ3, hk3⟩
      gi_wp2
      go_roundw
      case rel => exact ⟨k + 1, by omega, by simp, by rw [List.take_succ_eq_append_getElem hz, List.map_append]; exact hJ3⟩
      case measure => simp [intOf]; omega
    · obtain rfl : k = len := by omega
      gi_wp2
      go_end0
      refine ⟨⟨_, rfl⟩, ?_⟩
      rw [hlen, List.take_length] at hJs
      exact hJs
set_option maxRecDepth 100000 in
set_option maxHeartbeats 1000000 in
theorem vals1_nil (F : Fence) (n : Nat) (h7 : F.fn 132) (hro : F.round = none) (l Bs cap : Nat) (a : Option Addr) (J : List (List UInt8) → World → Prop) (W : World) (hBs : W.cell? ⟨Bs, 0, none⟩ = some (.slice a 0 cap)) (h0 : J [] W) :
    CallsIn F n Tryz.prog 132 #[.func (.yield l) #[] #[], .pointer (some ⟨Bs, 0, none⟩)] W fun e W' => (∃ v, e = .returned v) ∧ J [] W' := by
  refine callsIn_of_wp Tryz.func132 rfl h7 ?_ hro
  simp only [Tryz.ntmps132, List.size_toArray, List.length_cons, List.length_nil, Nat.reduceAdd, Nat.reduceSub, Array.replicate_succ, Array.replicate_zero, List.push_toArray, List.append_toArray, List.nil_append, List.cons_append]
  gi_wp2
  gi_loopw [7] (fun i wr => i = .int .i64 0 ∧ J [] wr) (fun _ _ => 0)
  case atStart => exact ⟨rfl, h0⟩
  case round =>
    obtain ⟨rfl, hJs⟩ := hrel
    gi_wp2
    go_end0
    exact ⟨⟨_, rfl⟩, hJs⟩
theorem vals_seq {A : Nat → Prop} {w : World} {v : Value} {zs : List ByteArray} (hS : SlS A w v zs) (hreach : zs.length * 16 ≤ 140737488351232) {Bs : Nat} (hBs : w.cell? ⟨Bs, 0, none⟩ = some v) :
    SeqB Fence.wide 2 Tryz.prog 132 #[.pointer (some ⟨Bs, 0, none⟩)] encStr (fun ss => ss = zs.map toL) zs.length w := fun l J W hW _ hB hY h0 => by
  have hc' := (hW.cell (p := ⟨Bs, 0, none⟩) (World.block_lt_of_cell? w _ hBs)).trans hBs
  obtain ⟨a, cap, rfl, hz, hr⟩ := hS.is
  rw [List.length_map] at hc'
  cases zs with
  | nil => exact (vals1_nil Fence.wide 2 trivial rfl l Bs cap a J W hc' h0).mono fun e W' ⟨he, hj⟩ => ⟨he, _, rfl, hj⟩
  | cons z zs =>
    obtain ⟨b, o, rfl, _, hrd⟩ := hr (by simp)
    have hcell : ∀ j (hj : j < (z :: zs).length), w.cell? ⟨b, o + j, none⟩ = some (.string (z :: zs)[j]) := fun j hj => by
      have := (hrd j [.string (z :: zs)[j]] (by rw [List.getElem?_map, List.getElem?_eq_getElem hj]; rfl)).2 0 _ rfl
      rwa [Nat.mul_one, Nat.add_zero] at this
    have hb := World.block_lt_of_cell? w _ (hcell 0 (by simp))
    exact (vals1_in Fence.wide 2 trivial rfl (by omega) l Bs b o cap (z :: zs) hreach w hb J hB hY W hc' hcell h0).mono fun e W' ⟨he, hj⟩ => ⟨he, _, rfl, hj⟩
theorem sl_Values {v : Value} (w : World) : Ret Tryz.prog 90 [v] w fun u w' => u = .func (.func 132) ⟨[]⟩ ⟨[.pointer (some ⟨w.heap.size, 0, none⟩)]⟩ ∧ Blk w' w.heap.size v.cells.toList 31 ∧ Ex w w' := by
  refine ret_of Tryz.func90 Tryz.ntmps90 rfl rfl rfl ?_
  (repeat (first | refine cw_seq ?_ | refine cw_region ?_))
  refine lw_box rfl ?_
  intro b w1 hbb hb1 hx1 hs1
  subst hbb
  (repeat (first | refine lw_pure hT rfl ?_ | refine lw_nil ?_ | refine cw_seq ?_ | refine cw_region ?_ | refine qw_then ?_ | refine cw_ret ?_))
  exact qw_ret rfl ⟨rfl, hb1, hx1⟩
def sortL (zs : List ByteArray) : List ByteArray := ((zs.map toL).mergeSort (fun x y => decide (x ≤ y))).map ofBytes
theorem sortL_perm (zs : List ByteArray) : (sortL zs).Perm zs := by
  unfold sortL
  have h := (List.mergeSort_perm (zs.map toL) (fun x y => decide (x ≤ y))).map ofBytes
  rw [List.map_map] at h
  have e : zs.map (ofBytes ∘ toL) = zs := by
    conv => rhs; rw [← List.map_id zs]
    exact List.map_congr_left fun s _ => ofBytes_inv s
  rwa [e] at h
theorem sortL_iff (a b : List ByteArray) : sortL a = sortL b ↔ a.Perm b := by
  constructor
  · intro h
    have := (sortL_perm b)
    rw [← h] at this
    exact (sortL_perm a).symm.trans this
  · intro h
    unfold sortL
    congr 1
    have tr : ∀ a b c : List UInt8, decide (a ≤ b) = true → decide (b ≤ c) = true → decide (a ≤ c) = true := fun a b c h1 h2 => by simp only [decide_eq_true_eq] at *; exact List.le_trans h1 h2
    have to : ∀ a b : List UInt8, (decide (a ≤ b) || decide (b ≤ a)) = true := fun a b => by simp only [Bool.or_eq_true, decide_eq_true_eq]; exact List.le_total a b
    refine List.Perm.eq_of_pairwise (le := fun x y => decide (x ≤ y) = true) ?_ (List.pairwise_mergeSort tr to _) (List.pairwise_mergeSort tr to _) (((List.mergeSort_perm _ _).trans (h.map toL)).trans (List.mergeSort_perm _ _).symm)
    intro x y _ _ h1 h2
    exact List.le_antisymm (of_decide_eq_true h1) (of_decide_eq_true h2)
set_option maxHeartbeats 1000000 in
theorem sl_SortedVals {A : Nat → Prop} {w : World} {v : Value} {zs : List ByteArray} (hS : SlS A w v zs) (hreach : zs.length * 16 ≤ 140737488351232) {Bs : Nat} (hBs : w.cell? ⟨Bs, 0, none⟩ = some v) :
    Ret Tryz.prog 48 [.func (.func 132) ⟨[]⟩ ⟨[.pointer (some ⟨Bs, 0, none⟩)]⟩] w fun u w' => w'.ownsRow w.heap.size 9 1 u (sortL zs).length ((sortL zs).map Value.string) ∧ Ex w w' := by
  have := sortedB_in Tryz.sorted48 Fence.wide 5 trivial trivial trivial trivial rfl (by omega) (sorts_at _) (enters_of Tryz.func96 (by kernel_rfl) rfl) 132 #[.pointer (some ⟨Bs, 0, none⟩)] trivial (enters_of Tryz.func132 (by kernel_rfl) rfl) _ _ (by unfold maxLen; omega) (by omega) _ (vals_seq hS hreach hBs)
  refine ret_mk ((callsIn_wide.1 this).mono ?_)
  rintro e w' ⟨u, ss, rfl, rfl, h3, _, h5⟩
  refine ⟨u, rfl, ?_, ex_of_below h5⟩
  have e1 : (sortL zs).length = (zs.map toL).length := by rw [(sortL_perm zs).length_eq, List.length_map]
  have e2 : (sortL zs).map Value.string = ((zs.map toL).mergeSort (fun x y => decide (x ≤ y))).map encStr := by
    unfold sortL
    rw [List.map_map]; rfl
  rw [e1, e2]
  exact h3
theorem SlsAt.vals {A : Nat → Prop} {w : World} {v : Value} {ps : List (List ByteArray)} (h : SlsAt A w v ps) : ∃ l : List (Value × List ByteArray), l.map (·.2) = ps ∧ Sl A w v 1 (l.map fun x => [x.1]) ∧ ∀ x ∈ l, SlS A w x.1 x.2 := by
  obtain ⟨p, cap, rfl, hrow⟩ := h.is
  have hz : ∃ us : List Value, us.length = ps.length ∧ ∀ i (hi : i < ps.length), ∃ b o, p = some ⟨b, o, none⟩ ∧ A b ∧ ∃ u, us[i]? = some u ∧ Rd w b (o + i * 1) [u] ∧ SlS A w u ps[i] := by
    have key : ∀ m, m ≤ ps.length → ∃ us : List Value, us.length = m ∧ ∀ i (hi : i < ps.length), i < m → ∃ b o, p = some ⟨b, o, none⟩ ∧ A b ∧ ∃ u, us[i]? = some u ∧ Rd w b (o + i * 1) [u] ∧ SlS A w u ps[i] := by
      intro m
      induction m with
      | zero => intro _; exact ⟨[], rfl, fun i _ h => by omega⟩
      | succ m ih =>
        intro hm
        obtain ⟨us, h1, h2⟩ := ih (by omega)
        obtain ⟨b, o, u, e1, e2, e3, e4⟩ := hrow m (by omega)
        refine ⟨us ++ [u], by simp [h1], fun i hi him => ?_⟩
        by_cases e : i = m
        · subst e
          exact ⟨b, o, e1, e2, u, by rw [List.getElem?_append_right (by omega)]; simp [h1], e3, e4⟩
        · obtain ⟨b', o', g1, g2, u', g3, g4⟩ := h2 i hi (by omega)
          exact ⟨b', o', g1, g2, u', by rw [List.getElem?_append_left (by omega)]; exact g3, g4⟩
    obtain ⟨us, h1, h2⟩ := key ps.length (Nat.le_refl _)
    exact ⟨us, h1, fun i hi => h2 i hi hi⟩
  obtain ⟨us, hl, hu⟩ := hz
  have hlen : (us.zip ps).length = ps.length := by rw [List.length_zip]; omega
  refine ⟨us.zip ps, ?_, ⟨⟨p, cap, ?_, ?_, ?_⟩, ?_⟩, ?_⟩
  · rw [List.map_snd_zip]; omega
  · rw [List.length_map, hlen]
  · exact fun hp => h.zero _ _ _ rfl hp
  · intro hne
    have hpl : 0 < ps.length := by
      rcases Nat.eq_zero_or_pos ps.length with h | h
      · exact absurd (List.eq_nil_of_length_eq_zero (by rw [List.length_map, hlen, h])) hne
      · exact h
    obtain ⟨b, o, e1, e2, _⟩ := hu 0 hpl
    refine ⟨b, o, e1, e2, fun i row hi => ?_⟩
    rw [List.getElem?_map] at hi
    obtain ⟨x, hx, rfl⟩ := Option.map_eq_some_iff.1 hi
    rw [List.getElem?_zip_eq_some] at hx
    obtain ⟨hx1, hx2⟩ := hx
    obtain ⟨b', o', e1', e2', u, e3, e4, e5⟩ := hu i (List.getElem?_eq_some_iff.1 hx2).1
    rw [e1] at e1'
    simp only [Option.some.injEq, Addr.mk.injEq, and_true] at e1'
    obtain ⟨rfl, rfl⟩ := e1'
    rw [hx1] at e3
    cases e3
    exact ⟨rfl, e4⟩
  · rw [List.length_map, hlen]; exact h.small
  · intro x hx
    obtain ⟨i, hi⟩ := List.getElem?_of_mem hx
    rw [List.getElem?_zip_eq_some] at hi
    obtain ⟨hx1, hx2⟩ := hi
    obtain ⟨hil, e⟩ := List.getElem?_eq_some_iff.1 hx2
    obtain ⟨b', o', e1', e2', u, e3, e4, e5⟩ := hu i hil
    rw [hx1] at e3
    cases e3
    rw [← e]; exact e5
theorem idxf_sls {α : Type} (row : α → List Value) (ev : α → Value) (hev : ∀ x, row x = [ev x]) {A : Nat → Prop} {v : Value} {l : List α} (p : α → Bool) {f : Nat} {fi cp : List Value} (w : World) (hS : Sl A w v 1 (l.map row)) (hf : memN T.fns f = true)
    (hcl : ∀ x ∈ l, ∀ w', Ex w w' → Ret Tryz.prog f (fi ++ [ev x] ++ cp) w' fun u w'' => u = .bool (p x) ∧ Ex w' w'') :
    Ret Tryz.prog 131 [v, .func (.func f) ⟨fi⟩ ⟨cp⟩] w fun u w' => u = .int .i64 (fidx p l) ∧ Ex w w' := by
  have hm := hS.small
  obtain ⟨a, cap, rfl, hz, hr⟩ := hS.is
  simp only [List.length_map] at *
  unfold maxLen at hm
  refine ret_of Tryz.func131 Tryz.ntmps131 rfl rfl rfl ?_
  (repeat (first | refine lw_pure hT rfl ?_ | refine lw_nil ?_ | refine cw_seq ?_ | refine cw_region ?_ | refine qw_then ?_ | refine cw_block ?_))
  refine cw_loop (fun i : Nat => [(0, .slice a l.length cap), (1, .func (.func f) ⟨fi⟩ ⟨cp⟩), (7, .int .i64 (l.length : Nat)), (8, .int .i64 (i : Nat))]) (fun i w' => Ex w w' ∧ i ≤ l.length ∧ ∀ j (hj : j < l.length), j < i → p l[j] = false) (fun i => l.length - i) 0 (by repeat (first | exact trivial | refine ⟨rfl, ?_⟩)) ⟨Ext.refl _ _, Nat.zero_le _, fun j _ hj => by omega⟩ ?_
  rintro i w' ⟨hx, hi, hb⟩
  (repeat (first | refine lw_pure hT rfl ?_ | refine lw_nil ?_ | refine cw_seq ?_ | refine cw_region ?_ | refine qw_then ?_))
  refine cw_cond rfl (fun h => ?_) (fun h => ?_)
  · have hlt : i < l.length := by simpa using h
    have hne : l.map row ≠ [] := by intro e; simp at e; subst e; simp at hlt
    obtain ⟨b, o, rfl, hA, hrd⟩ := hr hne
    obtain ⟨hlen, hrd⟩ := hrd i (row l[i]) (by simp [hlt])
    (repeat (first | refine lw_pure hT rfl ?_ | refine lw_nil ?_ | refine cw_seq ?_ | refine cw_region ?_ | refine qw_then ?_ | refine cw_skip ?_ | refine cw_block ?_))
    refine lw_index hT rfl rfl rfl i rfl hlt ?_
    skip
    refine lw_load hT rfl rfl (v := ev l[i]) (hx.cell (hrd 0 _ (by rw [hev]; rfl))) ?_
    skip
    refine lw_call_fn hT rfl hf rfl (hcl l[i] (List.getElem_mem hlt) w' hx) ?_
    rintro _ w2 ⟨rfl, hx2⟩
    (repeat (first | refine lw_nil ?_ | refine qw_then ?_))
    refine cw_cond rfl (fun h => ?_) (fun h => ?_)
    · (repeat (first | refine lw_pure hT rfl ?_ | refine lw_nil ?_ | refine cw_seq ?_ | refine cw_region ?_ | refine qw_then ?_ | refine cw_ret ?_ | refine qw_then_ret ?_ | refine qw_block_ret ?_))
      exact qw_ret rfl ⟨by rw [fidx_at hlt h fun j hj => hb j (by omega) hj]; rfl, hx.trans hx2⟩
    · (repeat (first | (refine lw_add rfl rfl ?_ ?_ ?_; iterate 2 omega) | refine lw_pure hT rfl ?_ | refine lw_nil ?_ | refine cw_region ?_ | refine qw_then ?_ | refine cw_skip ?_ | refine qw_block ?_))
      refine qw_round (i + 1) (by repeat (first | exact trivial | refine ⟨rfl, ?_⟩)) ⟨hx.trans hx2, hlt, fun j hj hji => ?_⟩ (by omega)
      by_cases e : j = i
      · subst e; exact h
      · exact hb j hj (by omega)
  · have : i = l.length := by simp at h; omega
    subst this
    (repeat (first | refine lw_pure hT rfl ?_ | refine lw_nil ?_ | refine cw_seq ?_ | refine cw_region ?_ | refine qw_then ?_ | refine cw_ret ?_ | refine cw_exit ?_ | refine qw_block_exit ?_ | refine qw_then_exit ?_))
    exact qw_ret rfl ⟨by rw [fidx_none fun j hj => hb j hj hj]; rfl, hx⟩
theorem cnf_sls {α : Type} (row : α → List Value) (ev : α → Value) (hev : ∀ x, row x = [ev x]) {A : Nat → Prop} {v : Value} {l : List α} (p : α → Bool) {f : Nat} {fi cp : List Value} (w : World) (hS : Sl A w v 1 (l.map row)) (hf : memN T.fns f = true)
    (hcl : ∀ x ∈ l, ∀ w', Ex w w' → Ret Tryz.prog f (fi ++ [ev x] ++ cp) w' fun u w'' => u = .bool (p x) ∧ Ex w' w'') :
    Ret Tryz.prog 88 [v, .func (.func f) ⟨fi⟩ ⟨cp⟩] w fun u w' => u = .bool (l.any p) ∧ Ex w w' := by
  refine ret_of Tryz.func88 Tryz.ntmps88 rfl rfl rfl ?_
  (repeat (first | refine lw_pure hT rfl ?_ | refine lw_nil ?_ | refine cw_seq ?_ | refine cw_region ?_ | refine qw_then ?_))
  refine lw_call hT rfl rfl (idxf_sls row ev hev p w hS hf hcl) ?_
  rintro _ w' ⟨rfl, hx⟩
  (repeat (first | refine lw_pure hT rfl ?_ | refine lw_nil ?_ | refine qw_then ?_ | refine cw_ret ?_))
  exact qw_ret rfl ⟨by rw [fidx_ge]; rfl, hx⟩
theorem spl_empty {A : Nat → Prop} {w : World} {v : Value} {l : List ByteArray} (hS : SlS A w v l) : Ret Tryz.prog 87 ([] ++ [v] ++ []) w fun u w' => u = .bool (decide (l = [])) ∧ Ex w w' := by
  obtain ⟨a, c, rfl, _, _⟩ := hS.is
  simp only [List.length_map] at *
  refine ret_of Tryz.func87 Tryz.ntmps87 rfl rfl rfl ?_
  (repeat (first | refine lw_pure hT rfl ?_ | refine lw_nil ?_ | refine cw_seq ?_ | refine cw_region ?_ | refine qw_then ?_ | refine cw_ret ?_))
  refine qw_ret rfl ⟨?_, Ext.refl _ _⟩
  show Value.bool _ = Value.bool _
  congr 1
  rw [decide_eq_decide]
  constructor
  · intro h; exact List.eq_nil_of_length_eq_zero (by omega)
  · intro h; rw [h]; rfl
set_option maxHeartbeats 2000000 in
theorem spl_parted {A B : Nat → Prop} {w : World} {b : BillD} {vb vp v : Value} {ps : List (List ByteArray)} (hS : SlsAt A w v ps) (hB : SlS B w vb b.boxes) (h1 : ps.flatten.length ≤ 1000000) (h2 : b.boxes.length ≤ 1000000) :
    Ret Tryz.prog 42 [.agg ⟨encB b vb vp⟩, v] w fun u w' => (∃ bb, u = .bool bb ∧ (bb = true ↔ PartP b.boxes ps)) ∧ Ex w w' := by
  obtain ⟨l, hl, hSl, hel⟩ := hS.vals
  refine ret_of Tryz.func42 Tryz.ntmps42 rfl rfl rfl ?_
  (repeat (first | refine cw_seq ?_ | refine cw_region ?_))
  refine lw_box rfl ?_
  intro b2 w1 hbb2 hb2 hx1 hs1
  replace hb2 : Blk w1 b2 (encB b vb vp) 33 := hb2
  (repeat (first | refine lw_pure hT rfl ?_ | refine lw_nil ?_ | refine cw_seq ?_ | refine cw_region ?_ | refine qw_then ?_))
  refine cw_draw hM (fun w' => Ex w1 w') [] rfl rfl (by repeat with_reducible (first | refine nop_then ?_ | refine nop_block ?_ | exact nop_body)) (fun w2 hx2 _ => ⟨hx2, ?_⟩)
  have hx02 := hx1.trans hx2
  (refine rw_takeP 0 rfl rfl (by kernel_rfl) (by kernel_rfl) (by kernel_rfl) (by kernel_rfl) rfl (yo_pure hT rfl) ?_; refine rw_takeP 1 rfl rfl (by kernel_rfl) (by kernel_rfl) (by kernel_rfl) (by kernel_rfl) rfl (yo_pure hT rfl) ?_)
  refine rw_one 2 rfl (by kernel_rfl) rfl (fun hcl => ?_)
  refine lw_call hT rfl rfl (cnf_sls (fun x : Value × List ByteArray => [x.1]) (fun x => x.1) (fun _ => rfl) (fun x => decide (x.2 = [])) w2 (hSl.ex hx02) rfl (fun x hx w' hx' => spl_empty ((hel x hx).ex (hx02.trans hx')))) ?_
  rintro _ w3 ⟨rfl, hx3⟩
  have hx13 := hx2.trans hx3
  have hany : (l.any fun x => decide (x.2 = [])) = true ↔ ¬ ∀ p ∈ ps, p ≠ [] := by
    rw [List.any_eq_true, ← hl]
    constructor
    · rintro ⟨x, hx, h⟩ hall
      exact hall x.2 (List.mem_map.2 ⟨x, hx, rfl⟩) (of_decide_eq_true h)
    · intro h
      exact Classical.byContradiction fun hne => h fun p hp hpe => by
        obtain ⟨x, hx, rfl⟩ := List.mem_map.1 hp
        exact hne ⟨x, hx, decide_eq_true hpe⟩
  (repeat (refine lw_nil ?_))
  refine qw_rw (by repeat with_reducible (first | refine nop_then ?_ | refine nop_block ?_ | exact nop_body)) hcl (fun _ => hx13) ?_
  cases hc : (l.any fun x => decide (x.2 = [])) with
  | true =>
    have hno := hany.1 hc
    (refine rw_takeP 3 rfl rfl (by kernel_rfl) (by kernel_rfl) (by kernel_rfl) (by kernel_rfl) rfl (yo_pure hT rfl) ?_; refine rw_takeP 4 rfl rfl (by kernel_rfl) (by kernel_rfl) (by kernel_rfl) (by kernel_rfl) rfl (yo_pure hT rfl) ?_)
    (refine rw_takeP 5 rfl rfl (by kernel_rfl) (by kernel_rfl) (by kernel_rfl) (by kernel_rfl) rfl (yo_off rfl rfl) ?_; refine rw_takeP 9 rfl rfl (by kernel_rfl) (by kernel_rfl) (by kernel_rfl) (by kernel_rfl) rfl (yo_off rfl rfl) ?_; refine rw_takeP 10 rfl rfl (by kernel_rfl) (by kernel_rfl) (by kernel_rfl) (by kernel_rfl) rfl (yo_off rfl rfl) ?_; refine rw_takeP 6 rfl rfl (by kernel_rfl) (by kernel_rfl) (by kernel_rfl) (by kernel_rfl) rfl (yo_off rfl rfl) ?_; refine rw_takeP 7 rfl rfl (by kernel_rfl) (by kernel_rfl) (by kernel_rfl) (by kernel_rfl) rfl (yo_off rfl rfl) ?_; refine rw_takeP 8 rfl rfl (by kernel_rfl) (by kernel_rfl) (by kernel_rfl) (by kernel_rfl) rfl (yo_off rfl rfl) ?_; refine rw_takeP 11 rfl rfl (by kernel_rfl) (by kernel_rfl) (by kernel_rfl) (by kernel_rfl) rfl (yo_off rfl rfl) ?_; refine rw_takeP 12 rfl rfl (by kernel_rfl) (by kernel_rfl) (by kernel_rfl) (by kernel_rfl) rfl (yo_off rfl rfl) ?_; refine rw_takeP 13 rfl rfl (by kernel_rfl) (by kernel_rfl) (by kernel_rfl) (by kernel_rfl) rfl (yo_off rfl rfl) ?_)
    (refine rw_takeP 14 rfl rfl (by kernel_rfl) (by kernel_rfl) (by kernel_rfl) (by kernel_rfl) rfl (yo_pure hT rfl) ?_; refine rw_takeP 15 rfl rfl (by kernel_rfl) (by kernel_rfl) (by kernel_rfl) (by kernel_rfl) rfl (yo_pure hT rfl) ?_)
    refine rw_done (by kernel_rfl) ?_
    (repeat (first | refine qw_then ?_ | refine cw_ret ?_))
    exact qw_ret rfl ⟨⟨false, rfl, ⟨fun h => by (exact absurd h (by decide)), fun h => absurd h.1 hno⟩⟩, hx1.trans hx13⟩
  | false =>
    have hyes : ∀ p ∈ ps, p ≠ [] := Classical.byContradiction fun h => by rw [hany.2 h] at hc; cases hc
    (refine rw_takeP 3 rfl rfl (by kernel_rfl) (by kernel_rfl) (by kernel_rfl) (by kernel_rfl) rfl (yo_pure hT rfl) ?_; refine rw_takeP 4 rfl rfl (by kernel_rfl) (by kernel_rfl) (by kernel_rfl) (by kernel_rfl) rfl (yo_pure hT rfl) ?_)
    (refine rw_takeP 5 rfl rfl (by kernel_rfl) (by kernel_rfl) (by kernel_rfl) (by kernel_rfl) rfl (yo_on rfl rfl (yo_pure hT rfl)) ?_; refine rw_takeP 9 rfl rfl (by kernel_rfl) (by kernel_rfl) (by kernel_rfl) (by kernel_rfl) rfl (yo_on rfl rfl (yo_pure hT rfl)) ?_)
    refine rw_take 10 rfl rfl (by kernel_rfl) (by kernel_rfl) (by kernel_rfl) (by kernel_rfl) rfl (yo_on rfl rfl (yo_load hT rfl rfl (v := vb) (fun w' hS => (hb2.ex hS).cell 5))) ?_
    refine rw_one 6 rfl (by kernel_rfl) rfl (fun hcl => ?_)
    refine lw_gon_t rfl rfl ?_
    refine lw_call hT rfl rfl (sl_Concat (hS.ex (hx1.trans hx13)) (by omega)) ?_
    rintro u4 w4 ⟨hu4, hx4⟩
    have hx14 := hx13.trans hx4
    (repeat (refine lw_nil ?_))
    refine qw_rw (by repeat with_reducible (first | refine nop_then ?_ | refine nop_block ?_ | exact nop_body)) hcl (fun _ => hx14) ?_
    have hs4 : SlS (fun _ => True) w4 u4 ps.flatten := sls_own hu4 fun _ _ => trivial
    refine rw_one 7 rfl (by kernel_rfl) rfl (fun hcl => ?_)
    refine lw_gon_t rfl rfl ?_
    refine lw_call hT rfl rfl (sl_Values w4) ?_
    rintro _ w5 ⟨rfl, hb5, hx5⟩
    have hx15 := hx14.trans hx5
    (repeat (refine lw_nil ?_))
    refine qw_rw (by repeat with_reducible (first | refine nop_then ?_ | refine nop_block ?_ | exact nop_body)) hcl (fun _ => hx15) ?_
    refine rw_one 8 rfl (by kernel_rfl) rfl (fun hcl => ?_)
    refine lw_gon_t rfl rfl ?_
    have one4 : u4.cells.toList = [u4] := by obtain ⟨a, c, e⟩ := own_slice0 hu4; rw [e]; rfl
    rw [one4] at hb5
    refine lw_call hT rfl rfl (sl_SortedVals (hs4.ex hx5) (by omega) (hb5.cell 0)) ?_
    rintro u6 w6 ⟨hu6, hx6⟩
    have hx16 := hx15.trans hx6
    (repeat (refine lw_nil ?_))
    refine qw_rw (by repeat with_reducible (first | refine nop_then ?_ | refine nop_block ?_ | exact nop_body)) hcl (fun _ => hx16) ?_
    refine rw_one 11 rfl (by kernel_rfl) rfl (fun hcl => ?_)
    refine lw_gon_t rfl rfl ?_
    refine lw_call hT rfl rfl (sl_Values w6) ?_
    rintro _ w7 ⟨rfl, hb7, hx7⟩
    have hx17 := hx16.trans hx7
    (repeat (refine lw_nil ?_))
    refine qw_rw (by repeat with_reducible (first | refine nop_then ?_ | refine nop_block ?_ | exact nop_body)) hcl (fun _ => hx17) ?_
    refine rw_one 12 rfl (by kernel_rfl) rfl (fun hcl => ?_)
    refine lw_gon_t rfl rfl ?_
    have oneb : vb.cells.toList = [vb] := by obtain ⟨a, c, e, _⟩ := hB.is; rw [e]; rfl
    rw [oneb] at hb7
    refine lw_call hT rfl rfl (sl_SortedVals (hB.ex (hx1.trans hx17)) (by omega) (hb7.cell 0)) ?_
    rintro u8 w8 ⟨hu8, hx8⟩
    have hx18 := hx17.trans hx8
    (repeat (refine lw_nil ?_))
    refine qw_rw (by repeat with_reducible (first | refine nop_then ?_ | refine nop_block ?_ | exact nop_body)) hcl (fun _ => hx18) ?_
    refine rw_one 13 rfl (by kernel_rfl) rfl (fun hcl => ?_)
    refine lw_gon_t rfl rfl ?_
    have hs6 : SlS (fun _ => True) w8 u6 (sortL ps.flatten) := sls_own (own_ex hu6 (hx7.trans hx8)) fun _ _ => trivial
    have hs8 : SlS (fun _ => True) w8 u8 (sortL b.boxes) := sls_own hu8 fun _ _ => trivial
    refine lw_call hT rfl rfl (sl_Equal hs6 hs8) ?_
    rintro _ w9 ⟨rfl, hx9⟩
    have hx19 := hx18.trans hx9
    (repeat (refine lw_nil ?_))
    refine qw_rw (by repeat with_reducible (first | refine nop_then ?_ | refine nop_block ?_ | exact nop_body)) hcl (fun _ => hx19) ?_
    (refine rw_takeP 14 rfl rfl (by kernel_rfl) (by kernel_rfl) (by kernel_rfl) (by kernel_rfl) rfl (yo_pure hT rfl) ?_; refine rw_takeP 15 rfl rfl (by kernel_rfl) (by kernel_rfl) (by kernel_rfl) (by kernel_rfl) rfl (yo_pure hT rfl) ?_)
    refine rw_done (by kernel_rfl) ?_
    (repeat (first | refine qw_then ?_ | refine cw_ret ?_))
    refine qw_ret rfl ⟨⟨_, rfl, ?_⟩, hx1.trans hx19⟩
    rw [decide_eq_true_iff, sortL_iff]
    exact ⟨fun h => ⟨hyes, h⟩, fun h => h.2⟩
end Go.Proofs.YtnglkhnfmbnfeaaGreat
namespace Go.Proofs.YtnglkhnfmbnfeaaGreat
open Go Go.SK
structure SActD where
  kind : Int
  bill : ByteArray
  by_ : ByteArray
  number : ByteArray
  shipper : ByteArray
  frm : ByteArray
  parts : List (List ByteArray)
  names : List ByteArray
  day : Int
structure SActD.Ok (a : SActD) : Prop where
  kind : 0 ≤ a.kind ∧ a.kind ≤ 255
  bill : a.bill.size ≤ maxLen
  by_ : a.by_.size ≤ maxLen
  number : a.number.size ≤ maxLen
  shipper : a.shipper.size ≤ maxLen
  frm : a.frm.size ≤ maxLen
  parts : ∀ p ∈ a.parts, ∀ x ∈ p, x.size ≤ maxLen
  names : ∀ x ∈ a.names, x.size ≤ maxLen
noncomputable def callD (r : RegD) (a : SActD) : Int × List ActD :=
  if a.kind.tmod 3 = 0 then splitC r a.bill a.by_ a.parts a.names a.day
  else if a.kind.tmod 3 = 1 then joinC r a.names a.by_ a.number a.day
  else switchC r a.bill a.by_ a.number a.shipper a.frm a.day
def goL (P : List ByteArray) (by_ : ByteArray) (day : Int) (N : List BillD) : List ActD := P.map (retiA · by_ day) ++ N.map (issA · by_)
theorem callR_ne {r : RegD} {c : Int × List ActD} (h : callC r c ≠ 0) : callR r c = r := by
  unfold callC at h
  unfold callR
  split
  · next h0 => rw [if_pos h0] at h; unfold stepsR; rw [if_neg h]
  · rfl
theorem callR_len {r : RegD} (h : r.l.length ≤ 256) (c : Int × List ActD) : (callR r c).l.length ≤ 256 := by
  unfold callR; split
  · exact steps_len h _
  · exact h
theorem callR_carrier (r : RegD) (c : Int × List ActD) : (callR r c).carrier = r.carrier := by
  unfold callR stepsR
  split
  · split
    · exact runA_carrier _ _
    · rfl
  · rfl
theorem iss_actC (r : RegD) (b : BillD) (h : ByteArray) : actC r (issA b h) = issueC r b h := rfl
theorem iss_doA (r : RegD) (b : BillD) (h : ByteArray) : doA r (issA b h) = issueD r b h := rfl
theorem split_goL {r : RegD} {bill by_ : ByteArray} {parts : List (List ByteArray)} {numbers : List ByteArray} {day : Int} (h : (splitC r bill by_ parts numbers day).1 = 0) :
    ∃ x, r.at? bill = some x ∧ 2 ≤ parts.length ∧ parts.length ≤ 64 ∧ numbers.length = parts.length ∧ PartP x.bill.boxes parts ∧
      (splitC r bill by_ parts numbers day).2 = goL [bill] by_ day ((parts.zip numbers).map fun q => nextB x.bill q.2 q.1 [bill] day) := by
  unfold splitC at h ⊢
  cases hat : r.at? bill with
  | none => rw [hat] at h; cases h
  | some x =>
    rw [hat] at h
    dsimp only at h ⊢
    split at h
    · cases h
    next hc =>
      rw [if_neg hc]
      simp only [not_or, Decidable.not_not] at hc
      obtain ⟨c1, c2, c3, c4, c5, c6⟩ := hc
      refine ⟨x, rfl, by omega, by omega, c3, Classical.not_not.1 c6, ?_⟩
      simp [goL, List.map_map, Function.comp_def]
theorem join_goL {r : RegD} {bills : List ByteArray} {by_ number : ByteArray} {day : Int} (h : (joinC r bills by_ number day).1 = 0) :
    ∃ x xs, bills.filterMap r.at? = x :: xs ∧ 2 ≤ bills.length ∧ bills.length ≤ 64 ∧ bills.Nodup ∧ (∀ n ∈ bills, ∃ e, r.at? n = some e) ∧ (∀ y ∈ xs, sameB x.bill y.bill) ∧
      (joinC r bills by_ number day).2 = goL bills by_ day [nextB x.bill number ((x :: xs).flatMap fun y => y.bill.boxes) bills day] := by
  unfold joinC at h ⊢
  split at h
  · cases h
  next h1 =>
  split at h
  · cases h
  next h2 =>
  rw [if_neg h1, if_neg h2]
  simp only [not_or, Decidable.not_not] at h1
  obtain ⟨c1, c2, c3⟩ := h1
  cases hf : bills.filterMap r.at? with
  | nil => rw [hf] at h; cases h
  | cons x xs =>
    rw [hf] at h
    dsimp only at h ⊢
    split at h
    · cases h
    next h3 =>
      rw [if_neg h3]
      refine ⟨x, xs, rfl, by omega, by omega, c3, fun n hn => ?_, fun y hy => ?_, rfl⟩
      · cases he : r.at? n with
        | none => exact absurd ⟨n, hn, he⟩ h2
        | some e => exact ⟨e, rfl⟩
      · exact Classical.byContradiction fun hne => h3 ⟨y, hy, hne⟩
theorem switch_goL {r : RegD} {bill by_ number shipper frm : ByteArray} {day : Int} (h : (switchC r bill by_ number shipper frm day).1 = 0) :
    ∃ x, r.at? bill = some x ∧ (switchC r bill by_ number shipper frm day).2 = goL [bill] by_ day [nextB { x.bill with shipper := shipper, frm := frm } number x.bill.boxes [bill] day] := by
  unfold switchC at h ⊢
  cases hat : r.at? bill with
  | none => rw [hat] at h; cases h
  | some x => exact ⟨x, rfl, rfl⟩
end Go.Proofs.YtnglkhnfmbnfeaaGreat
