/- Contracts of package register, third part: holders, chains, originals, bills. -/
import Derived.Test.YtfbjpfgglgffgaaGreatRb
set_option linter.unusedVariables false
set_option linter.unusedSimpArgs false
set_option linter.unusedSectionVars false
set_option linter.unnecessarySimpa false
namespace Go.Proofs.YtfbjpfgglgffgaaGreat
open Go Go.SK

section
variable {P : Program} {T : Tab} {n : Nat} {fr : Fr} {w : World} {Q : Exit → Act → World → Prop} {ops : Array Oper} {rest : List Oper}
/-- An element of an array that is a value. -/
theorem lw_index_agg (hT : TabOk P T) {d t e size m : Nat} {x y : Operand} {ty : TypeId} {ps : String} {af : Array Edge} {l vs : List Value} {q : IntKind} {i : Int} (hu : P.underlying t = some (.array m e)) (hkd : Go.SK.look T.kinds e = some (true, size))
    (hx : ev n fr x = some (.agg ⟨l⟩)) (hy : ev n fr y = some (.int q i)) (j : Nat) (hj : i = (j : Int)) (hlt : j < m) (hv : (l.drop (j * size)).take size = vs) (k : LW P ops Q rest n ((d, .agg ⟨vs⟩) :: fr) w) :
    LW P ops Q ({ dst := some d, op := .index t x y, type := ty, pos := ps, after := af, guard := none } :: rest) n fr w := by
  obtain ⟨i', dd, hi, hs, hu', hd⟩ := hT.kind hkd
  subst hj
  refine lw_run rfl rfl (fun a hk => ?_) k
  have hagg : (isAgg e).run P w = .ok true w := by
    unfold isAgg
    cases dd <;> simp_all [run_underlying hu']
  subst hs
  have e1 : (⟨l⟩ : Array Value).extract (j * i'.size) (j * i'.size + i'.size) = ⟨vs⟩ := by
    rw [← hv]; apply Array.ext'; simp
  simp [execOp, ev_sound hk hx, ev_sound hk hy, Instr.index, asIntOf, run_underlying hu, sizeOf, typeInfo, hi, hlt, part, hagg, e1, hv]
end
theorem u_papers : Tryz.prog.underlying 86 = some (.array 3 85) := by kernel_rfl

/-- An original. -/
def RegD.pap (r : RegD) (n : ByteArray) (k : Int) : Option (EntD × PapD) := match r.at? n with
  | none => none
  | some e => if 0 ≤ k ∧ k < 3 then some (e, e.ps.getD k.toNat default) else none
section
variable {w : World} {p : Nat} {r : RegD} {m : Nat} {gs : List GhostE}
theorem PapR.cases (hR : Rep w p r m gs) {num : ByteArray} {k : Int} {v : Value} (h : PapR r gs num k v) :
    (v = .tuple #[.pointer none, .pointer none] ∧ r.pap num k = none) ∨
    ∃ i x g j q vc, At r gs num i x g ∧ k = ((j : Nat) : Int) ∧ j < 3 ∧ v = .tuple #[.pointer (some ⟨g.e, 0, none⟩), .pointer (some ⟨g.e, 10 + j * 3, none⟩)] ∧ r.pap num k = some (x, q) ∧ x.ps[j]? = some q ∧ g.vcs[j]? = some vc ∧
      (entCells x g)[10 + j * 3]? = some (.int .i64 q.state) ∧ (entCells x g)[10 + j * 3 + 1]? = some (.string q.holder) ∧ (entCells x g)[10 + j * 3 + 2]? = some vc ∧ EntOk w x g := by
  rcases h with ⟨rfl, h⟩ | ⟨i, x, g, j, hA, rfl, hj, rfl⟩
  · refine .inl ⟨rfl, ?_⟩
    unfold RegD.pap
    rcases h with h | h
    · rw [h]
    · cases r.at? num with
      | none => rfl
      | some e => simp only [if_neg h]
  · have hE := hR.ents i x g hA.l hA.gi
    obtain ⟨q, vc, h1, h2, h3, h4, h5⟩ := entCells_paper hE.three hE.three' hj
    refine .inr ⟨i, x, g, j, q, vc, hA, rfl, hj, rfl, ?_, h1, h2, h3, h4, h5, hE⟩
    unfold RegD.pap
    rw [hA.at_]
    have : 0 ≤ (j : Int) ∧ (j : Int) < 3 := by omega
    simp only [if_pos this, Int.toNat_natCast]
    simp [List.getD_eq_getElem?_getD, h1]

def RegD.holderOf (r : RegD) (n : ByteArray) (k : Int) : Option ByteArray := match r.pap n k with
  | none => none
  | some (e, q) => if e.state = 0 ∧ (q.state = 0 ∨ q.state = 3) then some q.holder else none
def RegD.chainOf (r : RegD) (n : ByteArray) (k : Int) : List EndD := match r.pap n k with
  | none => []
  | some (_, q) => q.chain
theorem reg_Holder (hR : Rep w p r m gs) (num : ByteArray) (k : Int) : Ret Tryz.prog 25 [.pointer (some ⟨p, 0, none⟩), .string num, .int .i64 k] w fun v w' =>
    v = .tuple #[.string ((r.holderOf num k).getD ⟨#[]⟩), .bool (r.holderOf num k).isSome] ∧ Ex w w' := by
  refine ret_of Tryz.func25 Tryz.ntmps25 rfl rfl rfl ?_
  (repeat (first | refine lw_pure hT rfl ?_ | refine lw_nil ?_ | refine cw_seq ?_ | refine cw_region ?_ | refine qw_then ?_))
  refine lw_call hT rfl rfl (reg_paper hR num k) ?_
  rintro v w1 ⟨hv, hx1⟩
  rcases hv.cases hR with ⟨rfl, hp⟩ | ⟨i, x, g, j, q, vc, hA, rfl, hj, rfl, hp, h1, h2, h3, h4, h5, hE⟩
  · (repeat (first | refine lw_pure hT rfl ?_ | refine lw_nil ?_ | refine cw_seq ?_ | refine cw_region ?_ | refine qw_then ?_ | refine cw_ret ?_ | refine qw_then_ret ?_ | refine lw_goff_u rfl ?_ | (refine lw_goff_t rfl ?_ ?_; focus (first | with_reducible rfl | with_reducible exact Bool.not_false | with_reducible exact Bool.not_true)) | (refine cw_cond_t rfl ?_ ?_; focus (first | with_reducible rfl | with_reducible exact Bool.not_false | with_reducible exact Bool.not_true)) | refine lw_eqp_none hT rfl rfl ?_))
    exact qw_ret rfl ⟨by simp [oneOr, RegD.holderOf, hp], hx1⟩
  · (repeat (first | refine lw_pure hT rfl ?_ | refine lw_nil ?_ | refine cw_seq ?_ | refine cw_region ?_ | refine qw_then ?_ | (refine lw_gon_f rfl ?_ ?_; focus (first | with_reducible rfl | with_reducible exact Bool.not_false | with_reducible exact Bool.not_true)) | refine lw_eqp_some hT rfl rfl ?_))
    refine lw_load hT rfl rfl (v := .int .i64 x.state) (Ex.cell hx1 (hE.blk.cell 9)) ?_
    (repeat (first | refine lw_pure hT rfl ?_ | (refine lw_gon_f rfl ?_ ?_; focus (first | with_reducible rfl | with_reducible exact Bool.not_false | with_reducible exact Bool.not_true))))
    refine lw_guard rfl (fun h => ?_) (fun h => ?_)
    · (repeat (first | refine lw_pure hT rfl ?_ | refine lw_nil ?_ | refine cw_seq ?_ | refine cw_region ?_ | refine qw_then ?_ | refine cw_ret ?_ | refine qw_then_ret ?_ | refine lw_goff_u rfl ?_ | (refine lw_goff_t rfl ?_ ?_; focus (first | with_reducible rfl | with_reducible exact Bool.not_false | with_reducible exact Bool.not_true)) | (refine cw_cond_t rfl ?_ ?_; focus (first | with_reducible rfl | with_reducible exact Bool.not_false | with_reducible exact Bool.not_true))))
      refine qw_ret rfl ⟨?_, hx1⟩
      simp only [RegD.holderOf, hp]
      simp at h
      simp [oneOr, h]
    · simp at h
      (repeat (first | refine lw_pure hT rfl ?_ | (refine lw_gon_f rfl ?_ ?_; focus (first | with_reducible rfl | with_reducible exact Bool.not_false | with_reducible exact Bool.not_true))))
      refine lw_load hT rfl rfl (v := .int .i64 q.state) (Ex.cell hx1 ((hE.blk.cell _).trans h3)) ?_
      (repeat (first | refine lw_pure hT rfl ?_ | (refine lw_gon_f rfl ?_ ?_; focus (first | with_reducible rfl | with_reducible exact Bool.not_false | with_reducible exact Bool.not_true))))
      refine lw_guard rfl (fun h' => ?_) (fun h' => ?_)
      · (repeat (first | refine lw_pure hT rfl ?_ | (refine lw_gon_t rfl ?_ ?_; focus (first | with_reducible rfl | with_reducible exact Bool.not_false | with_reducible exact Bool.not_true))))
        refine lw_load hT rfl rfl (v := .int .i64 q.state) (Ex.cell hx1 ((hE.blk.cell _).trans h3)) ?_
        (repeat (first | refine lw_pure hT rfl ?_ | refine lw_nil ?_ | refine qw_then ?_ | (refine lw_gon_t rfl ?_ ?_; focus (first | with_reducible rfl | with_reducible exact Bool.not_false | with_reducible exact Bool.not_true)) | (refine lw_gon_f rfl ?_ ?_; focus (first | with_reducible rfl | with_reducible exact Bool.not_false | with_reducible exact Bool.not_true))))
        refine cw_cond rfl (fun h6 => ?_) (fun h6 => ?_)
        · (repeat (first | refine lw_pure hT rfl ?_ | refine lw_nil ?_ | refine cw_seq ?_ | refine cw_region ?_ | refine qw_then ?_ | refine cw_ret ?_ | refine qw_then_ret ?_))
          refine qw_ret rfl ⟨?_, hx1⟩
          simp at h' h6
          simp [oneOr, RegD.holderOf, hp, h, h', h6]
        · (repeat (first | refine lw_pure hT rfl ?_ | refine cw_seq ?_ | refine cw_region ?_ | refine qw_then ?_ | refine cw_skip ?_))
          refine lw_load hT rfl rfl (v := .string q.holder) (Ex.cell hx1 ((hE.blk.cell _).trans h4)) ?_
          (repeat (first | refine lw_pure hT rfl ?_ | refine lw_nil ?_ | refine qw_then ?_ | refine cw_ret ?_))
          refine qw_ret rfl ⟨?_, hx1⟩
          simp at h' h6
          simp [oneOr, RegD.holderOf, hp, h, h', h6]
      · (repeat (first | refine lw_pure hT rfl ?_ | refine lw_nil ?_ | refine cw_seq ?_ | refine cw_region ?_ | refine qw_then ?_ | refine cw_skip ?_ | (refine lw_goff_f rfl ?_ ?_; focus (first | with_reducible rfl | with_reducible exact Bool.not_false | with_reducible exact Bool.not_true)) | (refine lw_gon_f rfl ?_ ?_; focus (first | with_reducible rfl | with_reducible exact Bool.not_false | with_reducible exact Bool.not_true)) | (refine cw_cond_f rfl ?_ ?_; focus (first | with_reducible rfl | with_reducible exact Bool.not_false | with_reducible exact Bool.not_true))))
        refine lw_load hT rfl rfl (v := .string q.holder) (Ex.cell hx1 ((hE.blk.cell _).trans h4)) ?_
        (repeat (first | refine lw_pure hT rfl ?_ | refine lw_nil ?_ | refine qw_then ?_ | refine cw_ret ?_))
        refine qw_ret rfl ⟨?_, hx1⟩
        simp at h'
        simp [oneOr, RegD.holderOf, hp, h, h']
/-- Chains are no longer than may be. -/
def RegD.Small (r : RegD) : Prop := ∀ e ∈ r.l, (∀ q ∈ e.ps, q.chain.length ≤ 1000000) ∧ e.bill.boxes.length ≤ 1000000 ∧ e.bill.parents.length ≤ 1000000
theorem reg_Chain (hR : Rep w p r m gs) (hs : r.Small) (num : ByteArray) (k : Int) : Ret Tryz.prog 20 [.pointer (some ⟨p, 0, none⟩), .string num, .int .i64 k] w fun v w' =>
    w'.ownsRow w.heap.size 104 4 v (r.chainOf num k).length ((r.chainOf num k).map encE).flatten ∧ Ex w w' := by
  refine ret_of Tryz.func20 Tryz.ntmps20 rfl rfl rfl ?_
  (repeat (first | refine lw_pure hT rfl ?_ | refine lw_nil ?_ | refine cw_seq ?_ | refine cw_region ?_ | refine qw_then ?_))
  refine lw_call hT rfl rfl (reg_paper hR num k) ?_
  rintro v w1 ⟨hv, hx1⟩
  rcases hv.cases hR with ⟨rfl, hp⟩ | ⟨i, x, g, j, q, vc, hA, rfl, hj, rfl, hp, h1, h2, h3, h4, h5, hE⟩
  · (repeat (first | refine lw_pure hT rfl ?_ | refine lw_nil ?_ | refine cw_seq ?_ | refine cw_region ?_ | refine qw_then ?_ | refine cw_ret ?_ | refine qw_then_ret ?_ | (refine cw_cond_t rfl ?_ ?_; focus (first | with_reducible rfl | with_reducible exact Bool.not_false | with_reducible exact Bool.not_true)) | refine lw_eqp_none hT rfl rfl ?_))
    refine qw_ret rfl ⟨?_, hx1⟩
    simp only [RegD.chainOf, hp]
    exact World.ownsRow_nil _ _ _ _
  · (repeat (first | refine lw_pure hT rfl ?_ | refine lw_nil ?_ | refine cw_seq ?_ | refine cw_region ?_ | refine qw_then ?_ | refine cw_skip ?_ | (refine cw_cond_f rfl ?_ ?_; focus (first | with_reducible rfl | with_reducible exact Bool.not_false | with_reducible exact Bool.not_true)) | refine lw_eqp_some hT rfl rfl ?_))
    refine lw_load hT rfl rfl (v := vc) (Ex.cell hx1 ((hE.blk.cell _).trans h5)) ?_
    skip
    have hc := own_ex (hE.chains j q vc h1 h2) hx1
    refine lw_call hT rfl rfl (clone_end w1 (ChainOk.sl (A := fun _ => True) hc (fun _ _ => trivial)) ((hs x (List.mem_of_getElem? hA.l)).1 q (List.mem_of_getElem? h1))) ?_
    rintro u w2 ⟨hu, hx2⟩
    (repeat (first | refine lw_pure hT rfl ?_ | refine lw_nil ?_ | refine qw_then ?_ | refine cw_ret ?_))
    refine qw_ret rfl ⟨?_, hx1.trans hx2⟩
    simp only [RegD.chainOf, hp]
    exact own_mono hu hx1.size
end
end Go.Proofs.YtfbjpfgglgffgaaGreat
