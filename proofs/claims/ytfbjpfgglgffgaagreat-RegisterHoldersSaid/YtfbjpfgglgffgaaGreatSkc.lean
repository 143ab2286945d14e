/- The walking kit, third part: regions that draw their order (over the library's 'wpAnyH'), struct literals, jumps. No program is named here. -/
import Derived.Test.YtfbjpfgglgffgaaGreatSkb
import Derived.OrdersHeld
import Derived.ScopeJumps
set_option linter.unusedVariables false
set_option linter.unusedSimpArgs false
set_option linter.unusedSectionVars false
set_option linter.unnecessarySimpa false
namespace Go.SK
open Go
attribute [local semireducible] CW LW QW Ret Kn

def NoP (Q : Exit → Act → World → Prop) : Prop := ∀ c a w, ¬ Q (.panic c) a w
theorem nop_then {K : Act → World → Prop} {Q : Exit → Act → World → Prop} (h : NoP Q) : NoP (Exit.then K Q) := h
theorem nop_block {id : Nat} {Q : Exit → Act → World → Prop} (h : NoP Q) : NoP (Exit.inBlock id Q) := h
theorem nop_body {P : Program} {fn : Func} {R : Value → World → Prop} : NoP (bodyPost P fn fun e w' => ∃ v, e = .returned v ∧ R v w') := by
  rintro c a w ⟨_, v, h, _⟩
  cases h

/-! ### Whatever order is picked: what is read early must hold until one of the operations B is carried out. -/
def noB (B : List Nat) (listed : Array Bool) : Bool := B.all fun b => !listed.getD b false
/-- Operation j waits, perhaps through others, for operation i. -/
def ancB (ops : Array Oper) : Nat → Nat → Nat → Bool
  | 0, _, _ => false
  | f + 1, j, i => match ops[j]? with
    | none => false
    | some o => o.after.any fun e => Region.binds .any e && (Nat.beq e.on i || ancB ops f e.on i)
def Closed (ops : Array Oper) (listed : Array Bool) : Prop := ∀ j o, ops[j]? = some o → listed.getD j false = true → ∀ e ∈ o.after, Region.binds .any e = true → listed.getD e.on false = true
theorem anc_false {ops : Array Oper} {listed : Array Bool} (hc : Closed ops listed) {i : Nat} (hi : listed.getD i false = false) : ∀ (f j : Nat),
    (∀ o, ops[j]? = some o → ∀ e ∈ o.after, Region.binds .any e = true → listed.getD e.on false = true) → ancB ops f j i = false
  | 0, _, _ => rfl
  | f + 1, j, h => by
    unfold ancB
    split
    · rfl
    · rename_i o ho
      rw [Array.any_eq_false]
      intro k hk
      have hm : o.after[k] ∈ o.after := Array.getElem_mem hk
      cases hb : Region.binds .any o.after[k] with
      | false => simp
      | true =>
        have hl := h o ho _ hm hb
        have hne : Nat.beq o.after[k].on i = false := by
          cases h' : Nat.beq o.after[k].on i with
          | false => rfl
          | true => have := Nat.eq_of_beq_eq_true h'; rw [this, hi] at hl; cases hl
        have := anc_false hc hi f o.after[k].on (fun o' ho' => hc _ o' ho' hl)
        simp [hne, this]
def wpAnyU (P : Program) (ops : Array Oper) (Q : Exit → Act → World → Prop) (S : World → Prop) (B : List Nat) : Nat → Array Bool → Act → World → Prop
  | 0, listed, a, w => Region.ready .any ops listed = [] ∧ Q .normal a w
  | fuel + 1, listed, a, w =>
    (Region.ready .any ops listed = [] → Q .normal a w) ∧
    ∀ i ∈ Region.ready .any ops listed, wpOp P ops Q i (fun a' w' => (noB B (listed.setIfInBounds i true) = true → S w') ∧ wpAnyU P ops Q S B fuel (listed.setIfInBounds i true) a' w') a w
theorem wpAny_of_U {P : Program} {ops : Array Oper} {Q : Exit → Act → World → Prop} {S : World → Prop} {B : List Nat} : ∀ (fuel : Nat) (listed : Array Bool) (a : Act) (w : World), wpAnyU P ops Q S B fuel listed a w → wpAny P .any ops Q fuel listed a w
  | 0, _, _, _, h => h
  | fuel + 1, _, _, _, h => ⟨h.1, fun i hi => wpOp_mono (fun a' w' h' => wpAny_of_U fuel _ a' w' h'.2) (h.2 i hi)⟩
theorem ready_all {ops : Array Oper} {listed : Array Bool} {j : Nat} (hj : j ∈ Region.ready .any ops listed) : ∀ o, ops[j]? = some o → ∀ e ∈ o.after, Region.binds .any e = true → listed.getD e.on false = true := by
  obtain ⟨_, o, ho, hall⟩ := mem_ready.1 hj
  intro o' ho' e he hb
  rw [ho] at ho'
  cases ho'
  exact hall e he hb
theorem getD_set_keep {listed : Array Bool} {i j : Nat} (h : listed.getD j false = true) : (listed.setIfInBounds i true).getD j false = true := by
  by_cases e : i = j
  · subst e
    have : i < listed.size := by
      rcases Nat.lt_or_ge i listed.size with h' | h'
      · exact h'
      · simp [Array.getElem?_eq_none h'] at h
    simp [this]
  · rw [getD_set_ne false e]; exact h
theorem Closed.set {ops : Array Oper} {listed : Array Bool} (hc : Closed ops listed) {i : Nat} (hi : i ∈ Region.ready .any ops listed) : Closed ops (listed.setIfInBounds i true) := by
  intro j o ho hl e he hb
  refine getD_set_keep ?_
  by_cases h : i = j
  · subst h; exact ready_all hi o ho e he hb
  · rw [getD_set_ne false h] at hl
    exact hc j o ho hl e he hb
theorem noB_of_set {B : List Nat} {listed : Array Bool} {i : Nat} (h : noB B (listed.setIfInBounds i true) = true) : noB B listed = true := by
  unfold noB at *
  rw [List.all_eq_true] at *
  intro b hb
  have := h b hb
  cases hg : listed.getD b false with
  | false => rfl
  | true => rw [getD_set_keep hg] at this; cases this
theorem noB_set {B : List Nat} {listed : Array Bool} {i : Nat} (h : noB B listed = true) (hi : i ∉ B) : noB B (listed.setIfInBounds i true) = true := by
  unfold noB at *
  rw [List.all_eq_true] at *
  intro b hb
  have hne : i ≠ b := fun e => hi (by rw [e]; exact hb)
  rw [getD_set_ne false hne]
  exact h b hb
/-- **An operation that may come up may be taken first**, if it yields its value in every world that meets C, and C holds till it has come up. -/
theorem wpAnyU_first {P : Program} {ops : Array Oper} {Q : Exit → Act → World → Prop} {S : World → Prop} {B : List Nat} {i : Nat} {oi : Oper} {v : Value} (C : World → Prop) (hi : ops[i]? = some oi) (hsel : ∀ (j : Nat) (o : Oper) cs b, ops[j]? = some o → o.op ≠ .select cs b)
    (hQ : ∀ c a w, Q (.panic c) (a.put oi.dst v) w → Q (.panic c) a w) (hiB : i ∉ B) (hC : (∀ w, C w) ∨ ((∀ w, S w → C w) ∧ (∀ b ∈ B, ancB ops ops.size b i = true))) :
    ∀ (fuel : Nat) (listed : Array Bool) (a : Act) (w : World), Closed ops listed →
      (∀ j oj, ops[j]? = some oj → j ≠ i → listed.getD j true = false → (∀ e ∈ oj.after, Region.binds .any e = true → e.on ≠ i) → oi.apart ops oj = true) →
      i ∈ Region.ready .any ops listed → YieldsIf P ops C oi v a → C w → ((∀ w, C w) ∨ noB B listed = true) → (noB B (listed.setIfInBounds i true) = true → S w) →
      wpAnyU P ops Q S B fuel (listed.setIfInBounds i true) (a.put oi.dst v) w → wpAnyU P ops Q S B (fuel + 1) listed a w := by
  intro fuel
  induction fuel with
  | zero =>
    intro listed a w hcl _ hr hy hCw hnb hS H
    refine ⟨fun h => (by rw [h] at hr; cases hr), fun j hj => ?_⟩
    by_cases hji : j = i
    · subst hji; exact hy.wpOp hi hCw ⟨hS, H⟩
    · have := ready_mono hj hji
      rw [H.1] at this
      cases this
  | succ fuel ih =>
    intro listed a w hcl hfree hr hy hCw hnb hS H
    refine ⟨fun h => (by rw [h] at hr; cases hr), fun j hj => ?_⟩
    by_cases hji : j = i
    · subst hji; exact hy.wpOp hi hCw ⟨hS, H⟩
    · have h1 := H.2 j (ready_mono hj hji)
      obtain ⟨hjun, oj, hoj, hall⟩ := mem_ready.1 hj
      have hiun : listed.getD i false = false := by
        have h0 := (mem_ready.1 hr).1
        rcases Nat.lt_or_ge i listed.size with h' | h'
        · simp [h'] at h0 ⊢; exact h0
        · simp [Array.getElem?_eq_none h']
      have hnot : ∀ e ∈ oj.after, Region.binds .any e = true → e.on ≠ i := fun e he hb heq => by
        have h1 := hall e he hb
        rw [heq, hiun] at h1
        cases h1
      have hjB : (∀ w, C w) ∨ j ∉ B := by
        rcases hC with hC | ⟨_, hB⟩
        · exact .inl hC
        · refine .inr fun hm => ?_
          have h2 := hB j hm
          rw [anc_false hcl hiun _ j (ready_all hj)] at h2
          cases h2
      have h2 := wpOp_putIf hoj (hfree j oj hoj hji hjun hnot) (fun cs b => hsel i oi cs b hi) (fun cs b => hsel j oj cs b hoj) hQ hy h1
      have hfree' : ∀ k ok, ops[k]? = some ok → k ≠ i → (listed.setIfInBounds j true).getD k true = false →
          (∀ e ∈ ok.after, Region.binds .any e = true → e.on ≠ i) → oi.apart ops ok = true := fun k ok hk hki hun hno => by
        refine hfree k ok hk hki ?_ hno
        by_cases hjk : j = k
        · subst hjk; exact hjun
        · rw [getD_set_ne true hjk] at hun; exact hun
      have hcomm : (listed.setIfInBounds i true).setIfInBounds j true = (listed.setIfInBounds j true).setIfInBounds i true := Array.setIfInBounds_comm _ _ (Ne.symm hji)
      refine wpOp_mono (fun a' w' h3 => ?_) h2
      obtain ⟨hy', hS', hrec⟩ := h3
      rw [hcomm] at hS' hrec
      have hCw' : C w' := by
        rcases hC with hC | ⟨hSC, _⟩
        · exact hC w'
        · rcases hnb with hnb | hnb
          · exact hnb w'
          · rcases hjB with hjB | hjB
            · exact hjB w'
            · exact hSC w' (hS' (noB_set (noB_set hnb hjB) hiB))
      have hnb' : (∀ w, C w) ∨ noB B (listed.setIfInBounds j true) = true := by
        rcases hnb with hnb | hnb
        · exact .inl hnb
        · rcases hjB with hjB | hjB
          · exact .inl hjB
          · exact .inr (noB_set hnb hjB)
      refine ⟨fun hn => ?_, ih (listed.setIfInBounds j true) a' w' (hcl.set hj) hfree' (ready_mono hr (Ne.symm hji)) hy' hCw' hnb' hS' hrec⟩
      exact hS' (noB_set hn hiB)
def RW (P : Program) (ops : Array Oper) (Q : Exit → Act → World → Prop) (S : World → Prop) (B : List Nat) (fuel : Nat) (listed : Array Bool) (n : Nat) (fr : Fr) (w : World) : Prop :=
  NoP Q → Closed ops listed → (noB B listed = true → S w) → ∀ a, Kn n fr a → wpAnyU P ops Q S B fuel listed a w
def YO (P : Program) (ops : Array Oper) (S : World → Prop) (n : Nat) (fr : Fr) (o : Oper) (v : Value) : Prop := ∀ a, Kn n fr a → YieldsIf P ops S o v a

section
variable {P : Program} {T : Tab} {n : Nat} {fr : Fr} {w : World} {Q : Exit → Act → World → Prop} {ops : Array Oper} {S : World → Prop} {B : List Nat} {fuel : Nat} {listed : Array Bool}

theorem closed_none (ops : Array Oper) (m : Nat) : Closed ops (Array.replicate m false) := by
  intro j o _ hl
  have : (Array.replicate m false).getD j false = false := by
    rw [Array.getD_eq_getD_getElem?, Array.getElem?_replicate]; split <;> rfl
  rw [this] at hl; cases hl
theorem cw_draw (hm : P.follows .mixedOrders = true) {id : Nat} {l : List Oper} {m : Nat} {fs : Array Bool} (S : World → Prop) (B : List Nat) (hl : l.length = m) (hfs : Array.replicate m false = fs) (hN : NoP Q)
    (h : ∀ w', Ex w w' → w'.heap = w.heap → S w' ∧ RW P l.toArray Q S B m fs n fr w') : CW P (.region id l.toArray true) Q n fr w := by
  intro a hk
  subst hl
  obtain ⟨h1, h2⟩ := h { w with drawn := w.drawn + 1 } (Ext.drawn w _) rfl
  have := h2 hN (hfs ▸ closed_none _ _) (fun _ => h1) a hk
  refine wp_region_any hm (wpAny_of_U (S := S) (B := B) _ _ _ _ ?_)
  rw [← hfs] at this
  simpa using this
/-- One that looks into memory: what it reads holds till one of B is carried out, and these wait for it. -/
theorem rw_take (i : Nat) {o : Oper} {d : Nat} {v : Value} {listed' : Array Bool} (hi : ops[i]? = some o) (hd : o.dst = some d) (hs : Region.noSelect ops = true) (hf : Region.free .any ops listed i = true)
    (hr : (Region.ready .any ops listed).contains i = true) (hb : (noB B listed && (B.all (fun b => ancB ops ops.size b i) && !B.contains i)) = true) (hl : listed.setIfInBounds i true = listed') (hy : YO P ops S n fr o v) (k : RW P ops Q S B fuel listed' n ((d, v) :: fr) w) : RW P ops Q S B (fuel + 1) listed n fr w := by
  intro hN hc hS a hk
  subst hl
  simp only [Bool.and_eq_true, Bool.not_eq_true'] at hb
  obtain ⟨hb1, hb2, hb3⟩ := hb
  have hrr : i ∈ Region.ready .any ops listed := by simpa using hr
  have := k hN (hc.set hrr) (fun _ => hS hb1) (a.put (some d) v) (hk.put d v)
  rw [← hd] at this
  exact wpAnyU_first S hi (Region.noSelect_spec hs) (fun c a w hq => absurd hq (hN c _ w)) (by simpa using hb3) (.inr ⟨fun _ h => h, fun b hb => List.all_eq_true.1 hb2 b hb⟩) fuel listed a w hc (Region.free_spec hi hf) hrr (hy a hk) (hS hb1) (.inr hb1) (fun _ => hS hb1) this
/-- One that looks at its operands alone. -/
theorem rw_takeP (i : Nat) {o : Oper} {d : Nat} {v : Value} {listed' : Array Bool} (hi : ops[i]? = some o) (hd : o.dst = some d) (hs : Region.noSelect ops = true) (hf : Region.free .any ops listed i = true)
    (hr : (Region.ready .any ops listed).contains i = true) (hb : (!B.contains i) = true) (hl : listed.setIfInBounds i true = listed') (hy : YO P ops (fun _ => True) n fr o v) (k : RW P ops Q S B fuel listed' n ((d, v) :: fr) w) : RW P ops Q S B (fuel + 1) listed n fr w := by
  intro hN hc hS a hk
  subst hl
  simp only [Bool.not_eq_true'] at hb
  have hrr : i ∈ Region.ready .any ops listed := by simpa using hr
  have hS' : noB B (listed.setIfInBounds i true) = true → S w := fun h => hS (noB_of_set h)
  have := k hN (hc.set hrr) hS' (a.put (some d) v) (hk.put d v)
  rw [← hd] at this
  exact wpAnyU_first (fun _ => True) hi (Region.noSelect_spec hs) (fun c a w hq => absurd hq (hN c _ w)) (by simpa using hb) (.inl fun _ => trivial) fuel listed a w hc (Region.free_spec hi hf) hrr (hy a hk) trivial (.inl fun _ => trivial) hS' this
theorem upon_then {o : Oper} {a : Act} {K : Act → World → Prop} {Q : Exit → Act → World → Prop} {r : Result Next} (h : o.upon P a K (Exit.then K Q) r) : o.upon P a K Q r := by
  cases r with
  | ok x w' =>
    cases x <;> simp only [Oper.upon] at h ⊢ <;> first
      | exact h
      | (refine Calls.mono h ?_; intro e w'' he; cases e <;> exact he)
  | halt x w' => cases x <;> simp only [Oper.upon] at h ⊢ <;> exact h
theorem wpOp_of_lw {i : Nat} {o : Oper} {a : Act} {K : Act → World → Prop} (hi : ops[i]? = some o) (h : wpList P ops (Exit.then K Q) [o] a w) : wpOp P ops Q i K a w := by
  unfold wpOp
  simp only [hi]
  unfold wpList at h
  split
  · rename_i hw
    rw [if_pos hw] at h
    rcases h with h | ⟨h1, h2⟩
    · exact .inl (upon_then h)
    · exact .inr ⟨h1, h2⟩
  · rename_i hw
    rw [if_neg hw] at h
    exact h
theorem wpAnyU_all {rs : List Nat} {listed : Array Bool} {a : Act} {w : World} (hr : Region.ready .any ops listed = rs) (hne : rs ≠ [])
    (h : ∀ i ∈ rs, wpOp P ops Q i (fun a' w' => (noB B (listed.setIfInBounds i true) = true → S w') ∧ wpAnyU P ops Q S B fuel (listed.setIfInBounds i true) a' w') a w) : wpAnyU P ops Q S B (fuel + 1) listed a w :=
  ⟨fun h0 => absurd (hr ▸ h0) hne, hr ▸ h⟩
theorem rw_one (i : Nat) {o : Oper} {listed' : Array Bool} (hi : ops[i]? = some o) (hr : Region.ready .any ops listed = [i]) (hl : listed.setIfInBounds i true = listed')
    (h : Closed ops listed' → LW P ops (Exit.then (fun a w => (noB B listed' = true → S w) ∧ wpAnyU P ops Q S B fuel listed' a w) Q) [o] n fr w) : RW P ops Q S B (fuel + 1) listed n fr w := by
  intro hN hc hS a hk
  subst hl
  refine wpAnyU_all hr (by simp) fun j hj => ?_
  obtain rfl : j = i := by simpa using hj
  exact wpOp_of_lw hi (h (hc.set (by rw [hr]; exact hj)) a hk)
theorem rw_two (i j : Nat) {oi oj : Oper} {li lj : Array Bool} (hi : ops[i]? = some oi) (hj : ops[j]? = some oj) (hr : Region.ready .any ops listed = [i, j]) (hli : listed.setIfInBounds i true = li) (hlj : listed.setIfInBounds j true = lj)
    (h1 : Closed ops li → LW P ops (Exit.then (fun a w => (noB B li = true → S w) ∧ wpAnyU P ops Q S B fuel li a w) Q) [oi] n fr w)
    (h2 : Closed ops lj → LW P ops (Exit.then (fun a w => (noB B lj = true → S w) ∧ wpAnyU P ops Q S B fuel lj a w) Q) [oj] n fr w) : RW P ops Q S B (fuel + 1) listed n fr w := by
  intro hN hc hS a hk
  subst hli; subst hlj
  refine wpAnyU_all hr (by simp) fun k hk' => ?_
  have hmem : k ∈ Region.ready .any ops listed := by rw [hr]; exact hk'
  simp only [List.mem_cons, List.not_mem_nil, or_false] at hk'
  rcases hk' with rfl | rfl
  · exact wpOp_of_lw hi (h1 (hc.set hmem) a hk)
  · exact wpOp_of_lw hj (h2 (hc.set hmem) a hk)
theorem qw_rw {listed' : Array Bool} (hN : NoP Q) (hc : Closed ops listed') (hS : noB B listed' = true → S w) (h : RW P ops Q S B fuel listed' n fr w) : QW (Exit.then (fun a w => (noB B listed' = true → S w) ∧ wpAnyU P ops Q S B fuel listed' a w) Q) .normal n fr w :=
  fun a hk => ⟨hS, h hN hc hS a hk⟩
theorem wpAnyU_done {listed : Array Bool} {a : Act} {w : World} (hr : Region.ready .any ops listed = []) (h : Q .normal a w) : ∀ fuel, wpAnyU P ops Q S B fuel listed a w
  | 0 => ⟨hr, h⟩
  | _ + 1 => ⟨fun _ => h, by rw [hr]; simp⟩
theorem rw_done (hr : Region.ready .any ops listed = []) (h : QW Q .normal n fr w) : RW P ops Q S B fuel listed n fr w := fun _ _ _ a hk => wpAnyU_done hr (h a hk) fuel
theorem rw_sub {fr' : Fr} (hs : subB fr' fr) (h : RW P ops Q S B fuel listed n fr' w) : RW P ops Q S B fuel listed n fr w := fun hN hc hS a hk => h hN hc hS a (hk.sub (sub_of hs))
/-- A bool in a slot, both ways. -/
theorem rw_split {d : Nat} {b : Bool} (h : lk fr d = some (.bool b)) (ht : b = true → RW P ops Q S B fuel listed n ((d, .bool true) :: fr) w) (hf : b = false → RW P ops Q S B fuel listed n ((d, .bool false) :: fr) w) :
    RW P ops Q S B fuel listed n fr w := fun hN hc hS a hk => by
  cases b with
  | true => exact ht rfl hN hc hS a (hk.also h)
  | false => exact hf rfl hN hc hS a (hk.also h)

theorem yo_run {o : Oper} (hg : o.guard = none) {v : Value} (h : ∀ a, Kn n fr a → ∀ w, S w → (execOp a.eval o).run P w = .ok (.value v) w) : YO P ops S n fr o v := fun a hk =>
  .inl ⟨by simp [Region.wanted, hg], h a hk⟩
theorem yo_pure (hT : TabOk P T) {d : Nat} {op : Op} {ty : TypeId} {ps : String} {af : Array Edge} {v : Value} (h : pv T n fr op = some v) :
    YO P ops S n fr { dst := some d, op := op, type := ty, pos := ps, after := af, guard := none } v := yo_run rfl fun _ hk w _ => pv_sound hT hk h w
theorem yo_off {j d : Nat} {b want : Bool} {dst : Option Tmp} {op : Op} {ty : TypeId} {ps : String} {af : Array Edge} (h : gd ops n fr j = some (d, .bool b)) (hne : (b == want) = false) :
    YO P ops S n fr { dst := dst, op := op, type := ty, pos := ps, after := af, guard := some (j, want) } undef := fun a hk => .inr ⟨by
    obtain ⟨h1, _⟩ := gd_sound hk h
    unfold Region.wanted
    simp only [h1]
    have : (some b == some want) = (b == want) := rfl
    rw [this]; exact hne, rfl⟩
theorem yo_off_u {j d : Nat} {want : Bool} {dst : Option Tmp} {op : Op} {ty : TypeId} {ps : String} {af : Array Edge} (h : gd ops n fr j = some (d, undef)) :
    YO P ops S n fr { dst := dst, op := op, type := ty, pos := ps, after := af, guard := some (j, want) } undef := fun a hk => .inr ⟨by
    have h1 := gd_undef hk h
    unfold Region.wanted
    simp only [h1]
    rfl, rfl⟩
theorem yo_one {o : Oper} {v : Value} (h : YO P ops S n fr o v) : YO P ops S n fr o v := h
theorem yo_on {j d : Nat} {b want : Bool} {dst : Option Tmp} {op : Op} {ty : TypeId} {ps : String} {af : Array Edge} {v : Value} (h : gd ops n fr j = some (d, .bool b)) (he : (b == want) = true)
    (k : YO P ops S n fr { dst := dst, op := op, type := ty, pos := ps, after := af, guard := none } v) : YO P ops S n fr { dst := dst, op := op, type := ty, pos := ps, after := af, guard := some (j, want) } v := fun a hk => by
  obtain ⟨h1, _⟩ := gd_sound hk h
  refine .inl ⟨?_, ?_⟩
  · unfold Region.wanted
    simp only [h1]
    have : (some b == some want) = (b == want) := rfl
    rw [this]; exact he
  · rcases k a hk with ⟨_, h2⟩ | ⟨h2, _⟩
    · exact h2
    · simp [Region.wanted] at h2
theorem yo_load (hT : TabOk P T) {d t size : Nat} {x : Operand} {ty : TypeId} {ps : String} {af : Array Edge} {b o : Nat} {v : Value} (hx : ev n fr x = some (.pointer (some ⟨b, o, none⟩)))
    (ht : look T.kinds t = some (false, size)) (hc : ∀ w, S w → w.cell? ⟨b, o, none⟩ = some v) :
    YO P ops S n fr { dst := some d, op := .load t x, type := ty, pos := ps, after := af, guard := none } v :=
  yo_run rfl fun a hk w hS => by simp [execOp, ev_sound hk hx, Instr.loadAt, Instr.sureAddr, run_loadVar_one hT ht (hc w hS)]
theorem yo_load_agg (hT : TabOk P T) {d t size : Nat} {x : Operand} {ty : TypeId} {ps : String} {af : Array Edge} {b o : Nat} {vs : List Value} (hx : ev n fr x = some (.pointer (some ⟨b, o, none⟩)))
    (ht : look T.kinds t = some (true, size)) (hl : Nat.beq vs.length size = true) (hc : ∀ w, S w → Rd w b o vs) :
    YO P ops S n fr { dst := some d, op := .load t x, type := ty, pos := ps, after := af, guard := none } (.agg ⟨vs⟩) :=
  yo_run rfl fun a hk w hS => by simp [execOp, ev_sound hk hx, Instr.loadAt, Instr.sureAddr, run_loadVar_agg hT ht (Nat.eq_of_beq_eq_true hl) (hc w hS)]
theorem yo_index (hT : TabOk P T) {d t size : Nat} {x y : Operand} {ty : TypeId} {ps : String} {af : Array Edge} {b o len cap : Nat} {q : IntKind} {i : Int} (hx : ev n fr x = some (.slice (some ⟨b, o, none⟩) len cap))
    (hy : ev n fr y = some (.int q i)) (ht : look T.sls t = some size) (j : Nat) (hj : i = (j : Int)) (hlt : j < len) :
    YO P ops S n fr { dst := some d, op := .indexAddr t x y, type := ty, pos := ps, after := af, guard := none } (.pointer (some ⟨b, o + j * size, none⟩)) := by
  obtain ⟨e, inf, hu, hi, hs⟩ := hT.sl ht
  subst hj
  refine yo_run rfl fun a hk w _ => ?_
  simp [execOp, ev_sound hk hx, ev_sound hk hy, Instr.indexAt, asIntOf, run_underlying hu, sizeOf, typeInfo, hi, hs, addr_add, hlt]
theorem yo_index_arr (hT : TabOk P T) {d t size m : Nat} {x y : Operand} {ty : TypeId} {ps : String} {af : Array Edge} {b o : Nat} {q : IntKind} {i : Int} (hx : ev n fr x = some (.pointer (some ⟨b, o, none⟩)))
    (hy : ev n fr y = some (.int q i)) (ht : look T.arrs t = some (m, size)) (j : Nat) (hj : i = (j : Int)) (hlt : j < m) :
    YO P ops S n fr { dst := some d, op := .indexAddr t x y, type := ty, pos := ps, after := af, guard := none } (.pointer (some ⟨b, o + j * size, none⟩)) := by
  obtain ⟨e, inf, hu, hi, hs⟩ := hT.arr ht
  subst hj
  refine yo_run rfl fun a hk w _ => ?_
  simp [execOp, ev_sound hk hx, ev_sound hk hy, Instr.indexAt, asIntOf, run_underlying hu, sizeOf, typeInfo, hi, hs, addr_add, hlt, Instr.sureAddr]
theorem yo_byte (hT : TabOk P T) {d t : Nat} {x y : Operand} {ty : TypeId} {ps : String} {af : Array Edge} {s : ByteArray} {q : IntKind} {i : Int} (hx : ev n fr x = some (.string s))
    (hy : ev n fr y = some (.int q i)) (ht : memN T.strs t = true) (j : Nat) (hj : i = (j : Int)) (hlt : j < s.size) :
    YO P ops S n fr { dst := some d, op := .index t x y, type := ty, pos := ps, after := af, guard := none } (.int .u8 (s[j].toNat : Nat)) := by
  subst hj
  refine yo_run rfl fun a hk w _ => ?_
  simp [execOp, ev_sound hk hx, ev_sound hk hy, Instr.index, asIntOf, run_underlying (hT.str ht), hlt]
theorem yo_lookup_ok {d t e b : Nat} {z : Value} {es : List (ByteArray × Value)} {ks : ByteArray} {x y : Operand} {ty : TypeId} {ps : String} {af : Array Edge} (hM : MpT P t e z) (hx : ev n fr x = some (.map (some b))) (hy : ev n fr y = some (.string ks)) (hm : ∀ w, S w → Mp w b es) :
    YO P ops S n fr { dst := some d, op := .lookup t x y true, type := ty, pos := ps, after := af, guard := none } (.tuple #[(mget es ks).getD z, .bool (mget es ks).isSome]) :=
  yo_run rfl fun a hk w hS => by simp [execOp, ev_sound hk hx, ev_sound hk hy, run_lookup_mp hM (hm w hS)]
theorem yo_sum {op : BinOp} {d : Nat} {x y : Operand} {t t' : TypeId} {ty : TypeId} {ps : String} {af : Array Edge} {a b r : Int} (hx : ev n fr x = some (.int .i64 a)) (hy : ev n fr y = some (.int .i64 b))
    (ho : (op = .add ∧ r = a + b) ∨ (op = .sub ∧ r = a - b) ∨ (op = .mul ∧ r = a * b)) (hl : -9223372036854775808 ≤ r) (hu : r ≤ 9223372036854775807) :
    YO P ops S n fr { dst := some d, op := .binOp op t x y t', type := ty, pos := ps, after := af, guard := none } (.int .i64 r) :=
  yo_run rfl fun a' hk w _ => by
    have e : IntKind.i64.wrap r = r := IntWalk.i64_in _ ⟨hl, hu⟩
    rcases ho with ⟨rfl, hr⟩ | ⟨rfl, hr⟩ | ⟨rfl, hr⟩ <;> subst hr <;> simp [execOp, ev_sound hk hx, ev_sound hk hy, eqGuard, binOp, Op.intArith, e]
theorem yo_conv_int (hT : TabOk P T) {d s t : Nat} {q q' : IntKind} {i : Int} {x : Operand} {ty : TypeId} {ps : String} {af : Array Edge} (hx : ev n fr x = some (.int q i)) (hs : look T.ints s = some q) (ht : look T.ints t = some q') (hw : q'.wrap i = i) :
    YO P ops S n fr { dst := some d, op := .convert s t x, type := ty, pos := ps, after := af, guard := none } (.int q' i) :=
  yo_run rfl fun a hk w _ => by simp [execOp, ev_sound hk hx, convert, run_underlying (hT.int hs), run_underlying (hT.int ht), Conv.intToInt, hw]
theorem yo_slice_str (hT : TabOk P T) {d t : Nat} {x : Operand} {lo hi : Option Operand} {ty : TypeId} {ps : String} {af : Array Edge} {s : ByteArray} {l h : Int} (hx : ev n fr x = some (.string s)) (ht : memN T.strs t = true)
    (hlo : optInt n fr 0 lo = some l) (hhi : optInt n fr s.size hi = some h) (a b : Nat) (ha : l = (a : Int)) (hb : h = (b : Int)) (hab : a ≤ b) (hbs : b ≤ s.size) :
    YO P ops S n fr { dst := some d, op := .slice t x lo hi none, type := ty, pos := ps, after := af, guard := none } (.string (s.extract a b)) :=
  yo_run rfl fun act hk w _ => by
    have hbd := run_bounds (P := P) (w := w) (isS := false) (len := s.size) (cap := s.size) (optInt_of hk hlo ha) (optInt_of hk hhi hb) hab hbs
    simp only [execOp, Instr.sliceAt, Sem.run_bind, run_underlying (hT.str ht), Result.andThen_ok, Instr.slice, ev_sound hk hx, Option.map_none, Option.isSome_none, Bool.false_eq_true, if_false, hbd, Sem.run_pure]
theorem yo_slice_sl (hT : TabOk P T) {d t size : Nat} {x : Operand} {lo hi : Option Operand} {ty : TypeId} {ps : String} {af : Array Edge} {p : Option Addr} {len cap : Nat} {l h : Int} (hx : ev n fr x = some (.slice p len cap)) (ht : look T.sls t = some size)
    (hlo : optInt n fr 0 lo = some l) (hhi : optInt n fr len hi = some h) (a b : Nat) (ha : l = (a : Int)) (hb : h = (b : Int)) (hab : a ≤ b) (hbs : b ≤ cap) :
    YO P ops S n fr { dst := some d, op := .slice t x lo hi none, type := ty, pos := ps, after := af, guard := none } (.slice (if cap = a then p else p.map (·.add (a * size))) (b - a) (cap - a)) := by
  obtain ⟨e, inf, hu, hin, hs⟩ := hT.sl ht
  refine yo_run rfl fun act hk w _ => ?_
  have hbd := run_bounds (P := P) (w := w) (isS := true) (len := len) (cap := cap) (optInt_of hk hlo ha) (optInt_of hk hhi hb) hab hbs
  simp only [execOp, Instr.sliceAt, Sem.run_bind, run_underlying hu, Result.andThen_ok, Instr.slice, ev_sound hk hx, Option.map_none, hbd, Sem.run_pure, sizeOf, typeInfo, run_program, hin, hs]

/-! ### A struct written out. -/
def smO : List Value → Nat → List Value → Option (List Value)
  | cs, _, [] => some cs
  | cs, o, v :: r => match lset cs o v with
    | some cs' => smO cs' (o + 1) r
    | none => none
theorem lset_eq : ∀ {l r : List Value} {i : Nat} {v : Value}, lset l i v = some r → r = l.set i v ∧ i < l.length
  | [], _, _, _, h => by simp [lset] at h
  | _ :: l, r, 0, v, h => by simp [lset] at h; simp [← h]
  | a :: l, r, i + 1, v, h => by
    simp only [lset] at h
    cases hl : lset l i v with
    | none => simp [hl] at h
    | some r' =>
      simp only [hl, Option.some.injEq] at h
      obtain ⟨h1, h2⟩ := lset_eq hl
      subst h; subst h1
      simp [h2]
theorem smO_eq : ∀ {vs cs r : List Value} {o : Nat}, smO cs o vs = some r → r = setMany cs o vs ∧ (vs ≠ [] → o + vs.length ≤ cs.length) ∧ r.length = cs.length
  | [], cs, r, o, h => by simp [smO] at h; simp [← h, setMany]
  | v :: vs, cs, r, o, h => by
    simp only [smO] at h
    cases hl : lset cs o v with
    | none => simp [hl] at h
    | some cs' =>
      simp only [hl] at h
      obtain ⟨h1, h2⟩ := lset_eq hl
      obtain ⟨g1, g2, g3⟩ := smO_eq h
      subst h1
      refine ⟨by simpa [setMany] using g1, fun _ => ?_, by simpa using g3⟩
      cases vs with
      | nil => simp; omega
      | cons u us => have := g2 (by simp); simp at this ⊢; omega
def fillO (n : Nat) (fr : Fr) (pls : List (Nat × Nat)) : List Value → List (Nat × Operand) → Option (List Value)
  | cs, [] => some cs
  | cs, (i, x) :: r => match look (pls.zipIdx.map fun p => (p.2, p.1)) i, ev n fr x with
    | some (off, size), some v => match cellsIf v size with
      | some l => match smO cs off l with
        | some cs' => fillO n fr pls cs' r
        | none => none
      | none => none
    | _, _ => none
def BuildT (P : Program) (t : Nat) (zs : List Value) (pls : List (Nat × Nat)) : Prop :=
  ∃ fs i z, P.underlying t = some (.struct fs) ∧ P.info? t = some i ∧ i.zero = some z ∧ z.cells = ⟨zs⟩ ∧ fs.toList.mapM (fun f => (P.info? f.type).map fun i => (f.offset, i.size)) = some pls ∧ ∀ p ∈ pls, 0 < p.2
theorem buildT_of {P : Program} {t : Nat} {zs : List Value} {pls : List (Nat × Nat)} {fs : Array Field} (h1 : P.underlying t = some (.struct fs)) (h2 : (P.info? t).bind (fun i => i.zero.map (·.cells)) = some ⟨zs⟩)
    (h3 : fs.toList.mapM (fun f => (P.info? f.type).map fun i => (f.offset, i.size)) = some pls) (h4 : pls.all (fun p => Nat.blt 0 p.2) = true) : BuildT P t zs pls := by
  obtain ⟨i, hi, h⟩ := Option.bind_eq_some_iff.1 h2
  obtain ⟨z, hz, hz2⟩ := Option.map_eq_some_iff.1 h
  exact ⟨fs, i, z, h1, hi, hz, hz2, h3, fun p hp => by have := List.all_eq_true.1 h4 p hp; simpa [Nat.blt_eq] using this⟩
theorem look_zip {pls : List (Nat × Nat)} {i : Nat} {p : Nat × Nat} (h : look (pls.zipIdx.map fun p => (p.2, p.1)) i = some p) : pls[i]? = some p := by
  have := look_mem h
  simp only [List.mem_map, Prod.mk.injEq] at this
  obtain ⟨⟨q, k⟩, hm, h1, h2⟩ := this
  subst h1; subst h2
  exact List.mk_mem_zipIdx_iff_getElem?.1 hm
theorem foldl_setMany (off : Nat) : ∀ (c : List Value) (k : Nat) (cs : Array Value), (c.zipIdx k).foldl (fun cs (x : Value × Nat) => cs.setIfInBounds (off + x.2) x.1) cs = ⟨setMany cs.toList (off + k) c⟩
  | [], k, cs => by simp [setMany]
  | v :: c, k, cs => by
    simp only [List.zipIdx_cons, List.foldl_cons]
    rw [foldl_setMany off c]
    simp [setMany, Nat.add_assoc]
theorem fill_O {a : Act} (hk : Kn n fr a) {pls : List (Nat × Nat)} (hpos : ∀ p ∈ pls, 0 < p.2) : ∀ (l : List (Nat × Operand)) (cs vs : List Value), fillO n fr pls cs l = some vs →
    Instr.fill (fun i => pls[i]?) ⟨cs⟩ (l.map fun x => (x.1, a.eval x.2)) = some ⟨vs⟩
  | [], cs, vs, h => by simp only [fillO, Option.some.injEq] at h; subst h; rfl
  | (i, x) :: r, cs, vs, h => by
    simp only [fillO] at h
    split at h
    · rename_i off size v hl hx
      split at h
      · rename_i l hc
        split at h
        · rename_i cs' hs
          have hp := look_zip hl
          obtain ⟨e1, e2⟩ := cellsIf_eq hc
          obtain ⟨g1, g2, _⟩ := smO_eq hs
          have hne : l ≠ [] := by
            rintro rfl
            have := hpos _ (List.mem_of_getElem? hp)
            simp at e2; omega
          have hle := g2 hne
          have := fill_O hk hpos r cs' vs h
          simp only [List.map_cons, Instr.fill, hp, ev_sound hk hx, e1]
          rw [if_neg (by simp [e2]; omega)]
          rw [← Array.foldl_toList, Array.toList_zipIdx, foldl_setMany, ← this, g1]
          simp
        · cases h
      · cases h
    · cases h
theorem run_build {t : Nat} {zs vs : List Value} {pls : List (Nat × Nat)} {parts : Array (Nat × Operand)} {a : Act} (hk : Kn n fr a) (hB : BuildT P t zs pls) (h : fillO n fr pls zs parts.toList = some vs) :
    (Instr.build t (parts.map fun (i, x) => (i, a.eval x))).run P w = .ok (.agg ⟨vs⟩) w := by
  obtain ⟨fs, i, z, hu, hi, hz, hzs, hm, hpos⟩ := hB
  have key : ∀ (l : List Field) (ps : List (Nat × Nat)), l.mapM (fun f => (P.info? f.type).map fun i => (f.offset, i.size)) = some ps →
      (l.mapM (fun f => (do pure (f.offset, ← sizeOf f.type) : Sem (Nat × Nat)))).run P w = .ok ps w := by
    intro l
    induction l with
    | nil => intro ps h; simp at h; subst h; rfl
    | cons f l ih =>
      intro ps h
      simp only [List.mapM_cons, Option.bind_eq_bind, Option.pure_def, Option.bind_eq_some_iff, Option.map_eq_some_iff] at h
      obtain ⟨p, ⟨j, hj, hp⟩, ps', h1, h2⟩ := h
      simp only [Option.some.injEq] at h2
      subst h2; subst hp
      have e1 : (do pure (f.offset, ← sizeOf f.type) : Sem (Nat × Nat)).run P w = .ok (f.offset, j.size) w := by simp [sizeOf, typeInfo, hj]
      rw [List.mapM_cons, Sem.run_bind, e1, Result.andThen_ok, Sem.run_bind, ih _ h1]
      rfl
  have e2 : (fs.mapM (fun f => (do pure (f.offset, ← sizeOf f.type) : Sem (Nat × Nat)))).run P w = .ok ⟨pls⟩ w := by
    rw [Array.mapM_eq_mapM_toList, Sem.run_map, key _ _ hm]; rfl
  have e3 := fill_O hk hpos parts.toList zs vs h
  have hparts : (parts.map fun (i, x) => (i, a.eval x)).toList = parts.toList.map fun x => (x.1, a.eval x.2) := by simp
  simp only [Instr.build, Sem.run_bind, zeroValue, typeInfo, run_program, Result.andThen_ok, hi, Sem.run_pure, hz, run_underlying hu, e2, hparts, hzs]
  rw [show (fun i => (⟨pls⟩ : Array (Nat × Nat))[i]?) = fun i => pls[i]? from by funext i; simp, e3]
  rfl
theorem lw_build {rest : List Oper} {d t : Nat} {zs vs : List Value} {pls : List (Nat × Nat)} {parts : Array (Nat × Operand)} {ty : TypeId} {ps : String} {af : Array Edge} (hB : BuildT P t zs pls) (h : fillO n fr pls zs parts.toList = some vs)
    (k : LW P ops Q rest n ((d, .agg ⟨vs⟩) :: fr) w) : LW P ops Q ({ dst := some d, op := .build t parts, type := ty, pos := ps, after := af, guard := none } :: rest) n fr w :=
  lw_run rfl rfl (fun a hk => by simp only [execOp, Sem.run_bind, run_build hk hB h, Result.andThen_ok, Sem.run_pure]) k
theorem yo_build {d t : Nat} {zs vs : List Value} {pls : List (Nat × Nat)} {parts : Array (Nat × Operand)} {ty : TypeId} {ps : String} {af : Array Edge} (hB : BuildT P t zs pls) (h : fillO n fr pls zs parts.toList = some vs) :
    YO P ops S n fr { dst := some d, op := .build t parts, type := ty, pos := ps, after := af, guard := none } (.agg ⟨vs⟩) :=
  yo_run rfl fun a hk w _ => by simp only [execOp, Sem.run_bind, run_build hk hB h, Result.andThen_ok, Sem.run_pure]
end
attribute [irreducible] RW YO
end Go.SK
