import Derived.WalkKit
import Derived.Deep.Quiet
import Derived.Lib.Strings
import Derived.Maps.AppendAt
import Derived.MapKept
import Derived.Laws.IdiomRangeMap
import Derived.OrdersHeld
import Derived.ScopeJumps
import Derived.Test.YtnglkhnfmbnfeaaGreatProg
import Derived.KernelRfl
set_option linter.unusedVariables false
set_option linter.unusedSimpArgs false
set_option linter.unusedSectionVars false
set_option linter.unnecessarySimpa false
namespace Go.SK
open Go
abbrev Fr := List (Nat × Value)
def lk : Fr → Nat → Option Value
  | [], _ => none
  | (j, v) :: r, i => match Nat.beq i j with
    | true => some v
    | false => lk r i
def Kn (n : Nat) (fr : Fr) (a : Act) : Prop := a.tmps.size = n ∧ a.defers = [] ∧ ∀ i v, lk fr i = some v → i < n → a.tmps[i]? = some v
def ev (n : Nat) (fr : Fr) : Operand → Option Value
  | .tmp t => match Nat.blt t n with
    | true => lk fr t
    | false => none
  | .const v => some v
  | .global g => some (.pointer (some ⟨g, 0, none⟩))
  | .func f => some (.func (.func f) #[] #[])
theorem ev_sound {n : Nat} {fr : Fr} {a : Act} (h : Kn n fr a) {x : Operand} {v : Value} (he : ev n fr x = some v) : a.eval x = v := by
  cases x with
  | tmp t =>
    simp only [ev] at he
    cases hb : Nat.blt t n with
    | false => simp [hb] at he
    | true =>
      simp only [hb] at he
      have ht : t < n := by simpa [Nat.blt_eq] using hb
      have := h.2.2 t v he ht
      simp [Act.eval, Array.getD_eq_getD_getElem?, this]
  | const u => simpa [ev, Act.eval] using he
  | global g => simpa [ev, Act.eval] using he
  | func f => simpa [ev, Act.eval] using he
theorem Kn.put {n : Nat} {fr : Fr} {a : Act} (h : Kn n fr a) (d : Nat) (v : Value) : Kn n ((d, v) :: fr) (a.put (some d) v) := by
  refine ⟨by simpa [Act.put] using h.1, by simpa [Act.put] using h.2.1, ?_⟩
  intro i u hl hi
  simp only [lk] at hl
  simp only [Act.put]
  cases hb : Nat.beq i d with
  | true =>
    simp only [hb] at hl
    have e : i = d := Nat.eq_of_beq_eq_true hb
    subst e
    simp only [Option.some.injEq] at hl
    subst hl
    simp [h.1, hi]
  | false =>
    simp only [hb] at hl
    have e : i ≠ d := Nat.ne_of_beq_eq_false hb
    rw [Array.getElem?_setIfInBounds_ne (Ne.symm e)]
    exact h.2.2 i u hl hi
theorem Kn.also {n : Nat} {fr : Fr} {a : Act} (h : Kn n fr a) {d : Nat} {v : Value} (hd : lk fr d = some v) : Kn n ((d, v) :: fr) a := by
  refine ⟨h.1, h.2.1, ?_⟩
  intro i u hl hi
  simp only [lk] at hl
  cases hb : Nat.beq i d with
  | true =>
    simp only [hb] at hl
    have e : i = d := Nat.eq_of_beq_eq_true hb
    subst e
    simp only [Option.some.injEq] at hl
    subst hl
    exact h.2.2 i _ hd hi
  | false =>
    simp only [hb] at hl
    exact h.2.2 i u hl hi
def Sub (fr fr' : Fr) : Prop := ∀ i v, lk fr i = some v → lk fr' i = some v
def subB : Fr → Fr → Prop
  | [], _ => True
  | (j, v) :: r, fr' => lk fr' j = some v ∧ subB r fr'
theorem sub_of : ∀ {fr fr' : Fr}, subB fr fr' → Sub fr fr'
  | [], _, _ => fun i v h => by simp [lk] at h
  | (j, u) :: r, fr', h => fun i v hl => by
    simp only [lk] at hl
    cases hb : Nat.beq i j with
    | true =>
      simp only [hb] at hl
      have e : i = j := Nat.eq_of_beq_eq_true hb
      subst e
      rw [← hl]; exact h.1
    | false =>
      simp only [hb] at hl
      exact sub_of h.2 i v hl
theorem Kn.sub {n : Nat} {fr fr' : Fr} {a : Act} (h : Kn n fr' a) (hs : Sub fr fr') : Kn n fr a := ⟨h.1, h.2.1, fun i v hl hi => h.2.2 i v (hs i v hl) hi⟩
def evs (n : Nat) (fr : Fr) : List Operand → Option (List Value)
  | [] => some []
  | x :: r => match ev n fr x, evs n fr r with
    | some v, some l => some (v :: l)
    | _, _ => none
theorem evs_sound {n : Nat} {fr : Fr} {a : Act} (h : Kn n fr a) : ∀ {xs : List Operand} {vs : List Value}, evs n fr xs = some vs → xs.map a.eval = vs
  | [], vs, he => by simpa [evs] using he
  | x :: r, vs, he => by
    simp only [evs] at he
    cases h1 : ev n fr x with
    | none => simp [h1] at he
    | some v =>
      cases h2 : evs n fr r with
      | none => simp [h1, h2] at he
      | some l =>
        simp only [h1, h2, Option.some.injEq] at he
        subst he
        simp [ev_sound h h1, evs_sound h h2]
structure Tab where
  /-- struct, field, the field's place, its cells, is it a struct or an array -/
  flds : List (Nat × Nat × Nat × Nat × Bool)
  /-- slice type, cells of an element -/
  sls : List (Nat × Nat)
  /-- array type, length, cells of an element -/
  arrs : List (Nat × Nat × Nat)
  /-- type, is it a struct or an array, its cells -/
  kinds : List (Nat × Bool × Nat)
  strs : List Nat
  ptrs : List Nat
  ints : List (Nat × IntKind)
  fns : List Nat
def fld (T : Tab) (s f : Nat) : Option (Nat × Nat × Bool) := go T.flds
where go : List (Nat × Nat × Nat × Nat × Bool) → Option (Nat × Nat × Bool)
  | [] => none
  | (s', f', r) :: l => match Nat.beq s s', Nat.beq f f' with
    | true, true => some r
    | _, _ => go l
def look {α : Type} : List (Nat × α) → Nat → Option α
  | [], _ => none
  | (j, v) :: r, i => match Nat.beq i j with
    | true => some v
    | false => look r i
def memN : List Nat → Nat → Bool
  | [], _ => false
  | j :: r, i => match Nat.beq i j with
    | true => true
    | false => memN r i
def fieldFits (P : Program) (s f off size : Nat) (agg : Bool) : Bool :=
  match P.underlying s with
  | some (.struct fs) => match fs[f]? with
    | some fd => fd.offset == off && size != 0 && (match P.info? fd.type with | some i => i.size == size | none => false) &&
        (match P.underlying fd.type with | some (.struct _) | some (.array _ _) => agg | some _ => !agg | none => false)
    | none => false
  | _ => false
structure TabOk (P : Program) (T : Tab) : Prop where
  flds : T.flds.all (fun (s, f, off, size, agg) => fieldFits P s f off size agg) = true
  sls : T.sls.all (fun (t, size) => match P.underlying t with | some (.slice e) => (match P.info? e with | some i => i.size == size | none => false) | _ => false) = true
  arrs : T.arrs.all (fun (t, n, size) => match P.underlying t with | some (.array m e) => m == n && (match P.info? e with | some i => i.size == size | none => false) | _ => false) = true
  kinds : T.kinds.all (fun (t, agg, size) => (match P.info? t with | some i => i.size == size | none => false) && (match P.underlying t with | some (.struct _) | some (.array _ _) => agg | some _ => !agg | none => false)) = true
  strs : T.strs.all (fun t => match P.underlying t with | some .string => true | _ => false) = true
  ptrs : T.ptrs.all (fun t => match P.underlying t with | some (.pointer _) => true | _ => false) = true
  ints : T.ints.all (fun (t, k) => match P.underlying t with | some (.int k') => k' == k | _ => false) = true
  fns : T.fns.all (fun f => match P.funcs[f]? with | some fn => fn.body.isSome && !(fn.name == "runtime.NumGoroutine") | none => false) = true
theorem look_mem {α : Type} : ∀ {l : List (Nat × α)} {i : Nat} {v : α}, look l i = some v → (i, v) ∈ l
  | (j, u) :: r, i, v, h => by
    simp only [look] at h
    cases hb : Nat.beq i j with
    | true =>
      simp only [hb, Option.some.injEq] at h
      have := Nat.eq_of_beq_eq_true hb
      subst this; subst h
      exact List.mem_cons_self
    | false => simp only [hb] at h; exact List.mem_cons_of_mem _ (look_mem h)
theorem memN_mem : ∀ {l : List Nat} {i : Nat}, memN l i = true → i ∈ l
  | j :: r, i, h => by
    simp only [memN] at h
    cases hb : Nat.beq i j with
    | true => have := Nat.eq_of_beq_eq_true hb; subst this; exact List.mem_cons_self
    | false => simp only [hb] at h; exact List.mem_cons_of_mem _ (memN_mem h)
theorem fld_mem {s f : Nat} : ∀ {l : List (Nat × Nat × Nat × Nat × Bool)} {r : Nat × Nat × Bool}, fld.go s f l = some r → (s, f, r) ∈ l
  | (s', f', r') :: l, r, h => by
    simp only [fld.go] at h
    cases h1 : Nat.beq s s' <;> cases h2 : Nat.beq f f' <;> simp only [h1, h2] at h
    case true.true =>
      have e1 := Nat.eq_of_beq_eq_true h1
      have e2 := Nat.eq_of_beq_eq_true h2
      simp only [Option.some.injEq] at h
      subst e1; subst e2; subst h
      exact List.mem_cons_self
    all_goals exact List.mem_cons_of_mem _ (fld_mem h)
section
variable {P : Program} {T : Tab}
theorem TabOk.fld (h : TabOk P T) {s f off size : Nat} {agg : Bool} (hf : fld T s f = some (off, size, agg)) : fieldFits P s f off size agg = true :=
  List.all_eq_true.1 h.flds _ (fld_mem hf)
theorem TabOk.sl (h : TabOk P T) {t size : Nat} (hf : look T.sls t = some size) : ∃ e i, P.underlying t = some (.slice e) ∧ P.info? e = some i ∧ i.size = size := by
  have := List.all_eq_true.1 h.sls _ (look_mem hf)
  try dsimp only at this
  split at this
  · rename_i e he
    split at this
    · rename_i i hi; exact ⟨e, i, he, hi, by simpa using this⟩
    · cases this
  · cases this
theorem TabOk.arr (h : TabOk P T) {t n size : Nat} (hf : look T.arrs t = some (n, size)) : ∃ e i, P.underlying t = some (.array n e) ∧ P.info? e = some i ∧ i.size = size := by
  have := List.all_eq_true.1 h.arrs _ (look_mem hf)
  try dsimp only at this
  split at this
  · rename_i m e he
    simp only [Bool.and_eq_true, beq_iff_eq] at this
    obtain ⟨rfl, this⟩ := this
    split at this
    · rename_i i hi; exact ⟨e, i, he, hi, by simpa using this⟩
    · cases this
  · cases this
theorem TabOk.kind (h : TabOk P T) {t size : Nat} {agg : Bool} (hf : look T.kinds t = some (agg, size)) :
    ∃ i d, P.info? t = some i ∧ i.size = size ∧ P.underlying t = some d ∧ (match d with | .struct _ | .array _ _ => agg | _ => !agg) = true := by
  have := List.all_eq_true.1 h.kinds _ (look_mem hf)
  simp only [Bool.and_eq_true] at this
  obtain ⟨h1, h2⟩ := this
  split at h1
  · rename_i i hi
    split at h2
    · rename_i fs he; exact ⟨i, _, hi, by simpa using h1, he, h2⟩
    · rename_i m e he; exact ⟨i, _, hi, by simpa using h1, he, h2⟩
    · rename_i d hn1 hn2 he
      refine ⟨i, d, hi, by simpa using h1, he, ?_⟩
      cases d <;> first | exact h2 | (exfalso; exact hn1 _ rfl) | (exfalso; exact hn2 _ _ rfl)
    · cases h2
  · cases h1
theorem TabOk.str (h : TabOk P T) {t : Nat} (hf : memN T.strs t = true) : P.underlying t = some .string := by
  have := List.all_eq_true.1 h.strs _ (memN_mem hf)
  try dsimp only at this
  split at this
  · assumption
  · cases this
theorem TabOk.ptr (h : TabOk P T) {t : Nat} (hf : memN T.ptrs t = true) : ∃ e, P.underlying t = some (.pointer e) := by
  have := List.all_eq_true.1 h.ptrs _ (memN_mem hf)
  try dsimp only at this
  split at this
  · rename_i e he; exact ⟨e, he⟩
  · cases this
theorem TabOk.int (h : TabOk P T) {t : Nat} {k : IntKind} (hf : look T.ints t = some k) : P.underlying t = some (.int k) := by
  have := List.all_eq_true.1 h.ints _ (look_mem hf)
  try dsimp only at this
  split at this
  · rename_i k' he; rw [he]; simp at this; rw [this]
  · cases this
theorem TabOk.fn (h : TabOk P T) {f : Nat} (hf : memN T.fns f = true) : ∃ fn, P.funcs[f]? = some fn ∧ fn.body.isSome = true ∧ (fn.name == "runtime.NumGoroutine") = false := by
  have := List.all_eq_true.1 h.fns _ (memN_mem hf)
  try dsimp only at this
  split at this
  · rename_i fn he; simp at this; exact ⟨fn, he, by simp [this.1], by simpa using this.2⟩
  · cases this
end
def lset : List Value → Nat → Value → Option (List Value)
  | [], _, _ => none
  | _ :: r, 0, v => some (v :: r)
  | a :: r, i + 1, v => match lset r i v with
    | some r' => some (a :: r')
    | none => none
def ltake : Nat → List Value → Option (List Value)
  | 0, _ => some []
  | _ + 1, [] => none
  | k + 1, a :: r => match ltake k r with
    | some r' => some (a :: r')
    | none => none
def ldrop : Nat → List Value → Option (List Value)
  | 0, l => some l
  | _ + 1, [] => none
  | k + 1, _ :: r => ldrop k r
theorem ltake_eq : ∀ {k : Nat} {l r : List Value}, ltake k l = some r → l.take k = r ∧ k ≤ l.length
  | 0, l, r, h => by simp [ltake] at h; simp [← h]
  | k + 1, [], r, h => by simp [ltake] at h
  | k + 1, a :: l, r, h => by
    simp only [ltake] at h
    cases hl : ltake k l with
    | none => simp [hl] at h
    | some r' =>
      simp only [hl, Option.some.injEq] at h
      obtain ⟨h1, h2⟩ := ltake_eq hl
      subst h
      simp [h1, h2]
theorem ldrop_eq : ∀ {k : Nat} {l r : List Value}, ldrop k l = some r → l.drop k = r
  | 0, l, r, h => by simp [ldrop] at h; simp [h]
  | k + 1, [], r, h => by simp [ldrop] at h
  | k + 1, a :: l, r, h => by simpa using ldrop_eq (k := k) (by simpa [ldrop] using h)
def sameKind (k k' : IntKind) : Bool := decide (k = k')
def bin (op : BinOp) (x y : Value) : Option Value :=
  match x, y with
  | .int k a, .int k' b => match sameKind k k' with
    | true => match op with
      | .add => some (.int k (k.wrap (a + b)))
      | .sub => some (.int k (k.wrap (a - b)))
      | .mul => some (.int k (k.wrap (a * b)))
      | .eql => some (.bool (decide (a = b)))
      | .neq => some (.bool (decide (a ≠ b)))
      | .lss => some (.bool (decide (a < b)))
      | .leq => some (.bool (decide (a ≤ b)))
      | .gtr => some (.bool (decide (a > b)))
      | .geq => some (.bool (decide (a ≥ b)))
      | _ => none
    | false => none
  | .string s, .string t => match op with
    | .eql => some (.bool (decide (s = t)))
    | .neq => some (.bool (decide (s ≠ t)))
    | .lss => some (.bool (Op.bytesLess s.toList t.toList))
    | _ => none
  | _, _ => none
def pv (T : Tab) (n : Nat) (fr : Fr) : Op → Option Value
  | .move x => ev n fr x
  | .assign x => ev n fr x
  | .pick c a b => match ev n fr c with
    | some (.bool true) => ev n fr a
    | some (.bool false) => ev n fr b
    | _ => none
  | .nilCheck x => match ev n fr x with
    | some (.pointer (some a)) => some (.pointer (some a))
    | some (.func (.func f) l c) => some (.func (.func f) l c)
    | _ => none
  | .binOp op _ x y _ => match ev n fr x, ev n fr y with
    | some u, some v => bin op u v
    | _, _ => none
  | .unOp op _ x => match op, ev n fr x with
    | .not, some (.bool b) => some (.bool !b)
    | _, _ => none
  | .fieldAddr s x f => match fld T s f, ev n fr x with
    | some (off, _, _), some (.pointer (some ⟨b, o, none⟩)) => some (.pointer (some ⟨b, o + off, none⟩))
    | _, _ => none
  | .field s x f => match fld T s f, ev n fr x with
    | some (off, size, true), some (.agg ⟨l⟩) => match ldrop off l with
      | some l' => match ltake size l' with
        | some l'' => some (.agg ⟨l''⟩)
        | none => none
      | none => none
    | some (off, _, false), some (.agg ⟨l⟩) => match ldrop off l with
      | some (v :: _) => some v
      | _ => none
    | _, _ => none
  | .extract x i => match ev n fr x with
    | some (.tuple ⟨l⟩) => match ldrop i l with
      | some (v :: _) => some v
      | _ => none
    | _ => none
  | .makeFunc fn first captured => match evs n fr first.toList, evs n fr captured.toList with
    | some a, some b => some (.func fn ⟨a⟩ ⟨b⟩)
    | _, _ => none
  | .call ⟨.builtin .len, xs, ts⟩ => match xs.toList, ts.toList with
    | [x], [t] => match ev n fr x with
      | some (.string s) => match memN T.strs t with
        | true => some (.int .i64 (s.size : Nat))
        | false => none
      | some (.slice _ l _) => match look T.sls t with
        | some _ => some (.int .i64 (l : Nat))
        | none => none
      | _ => none
    | _, _ => none
  | _ => none
theorem bytes_eq {s t : ByteArray} : s.toList = t.toList ↔ s = t := by
  rw [Lib.toList_data, Lib.toList_data]
  exact ⟨fun h => ByteArray.ext (Array.toList_inj.1 h), fun h => by rw [h]⟩
theorem addr_add (b o k : Nat) : (⟨b, o, none⟩ : Addr).add k = ⟨b, o + k, none⟩ := by
  unfold Addr.add; split <;> simp_all
section
variable {P : Program} {T : Tab} {n : Nat} {fr : Fr} {a : Act}
theorem bin_sound {op : BinOp} {t : TypeId} {x y : Operand} {u v r : Value} (h : bin op u v = some r) (w : World) :
    (do eqGuard op t x y u v; binOp op t u v : Sem Value).run P w = .ok r w := by
  unfold bin at h
  split at h
  · rename_i k i k' j
    cases hk : sameKind k k' with
    | false => simp [hk] at h
    | true =>
      have hk' : k = k' := of_decide_eq_true hk
      simp only [hk] at h
      subst hk'
      cases op <;> simp only [Option.some.injEq] at h <;> (try (cases h; done)) <;> subst h <;>
        simp [eqGuard, binOp, Op.intArith, Op.intCmp] <;> first | rfl | (rw [Bool.eq_iff_iff]; simp)
  · rename_i s t'
    cases op <;> simp only [Option.some.injEq] at h <;> (try (cases h; done)) <;> subst h <;>
      simp [eqGuard, binOp, Op.stringOp] <;> (try (rw [Bool.eq_iff_iff]; simp [bytes_eq]))
  · cases h
theorem pv_sound (hT : TabOk P T) (hk : Kn n fr a) {o : Oper} {v : Value} (h : pv T n fr o.op = some v) (w : World) : (execOp a.eval o).run P w = .ok (.value v) w := by
  unfold pv at h
  split at h
  · -- move
    rename_i x ho
    simp [execOp, ho, ev_sound hk h]
  · rename_i x ho
    simp [execOp, ho, ev_sound hk h]
  · rename_i c x y ho
    split at h
    · rename_i hc; simp [execOp, ho, ev_sound hk hc, asBool, ev_sound hk h]
    · rename_i hc; simp [execOp, ho, ev_sound hk hc, asBool, ev_sound hk h]
    · cases h
  · rename_i x ho
    split at h
    · rename_i p hx; simp only [Option.some.injEq] at h; subst h; simp [execOp, ho, ev_sound hk hx]
    · rename_i f l c hx; simp only [Option.some.injEq] at h; subst h; simp [execOp, ho, ev_sound hk hx]
    · cases h
  · rename_i op t x y ty ho
    split at h
    · rename_i u u' hx hy
      have := bin_sound (P := P) (t := t) (x := x) (y := y) h w
      simp only [execOp, ho, ev_sound hk hx, ev_sound hk hy]
      rw [Sem.run_bind, this]; rfl
    · cases h
  · rename_i op t x ho
    split at h
    · rename_i b hx; simp only [Option.some.injEq] at h; subst h; simp [execOp, ho, ev_sound hk hx, Op.unary]
    · cases h
  · -- fieldAddr
    rename_i s x f ho
    split at h
    · rename_i off size agg b o' hf hx
      simp only [Option.some.injEq] at h; subst h
      have hfit := hT.fld hf
      unfold fieldFits at hfit
      split at hfit
      · rename_i fs hu
        split at hfit
        · rename_i fd hfd
          simp only [Bool.and_eq_true, beq_iff_eq, bne_iff_ne, ne_eq] at hfit
          obtain ⟨⟨⟨h1, h2⟩, h3⟩, _⟩ := hfit
          split at h3
          · rename_i i hi
            simp only [beq_iff_eq] at h3
            have hsz : i.size ≠ 0 := by rw [h3]; exact h2
            simp [execOp, ho, ev_sound hk hx, Instr.fieldAt, run_underlying hu, hfd, Instr.sureAddr, fieldPlace, sizeOf, typeInfo, hi, hsz, addr_add, h1]
          · cases h3
        · cases hfit
      · cases hfit
    · cases h
  · -- field
    rename_i s x f ho
    split at h
    · rename_i off size l hf hx
      have hfit := hT.fld hf
      unfold fieldFits at hfit
      split at hfit
      · rename_i fs hu
        split at hfit
        · rename_i fd hfd
          simp only [Bool.and_eq_true, beq_iff_eq, bne_iff_ne, ne_eq] at hfit
          obtain ⟨⟨⟨h1, h2⟩, h3⟩, h4⟩ := hfit
          split at h3
          · rename_i i hi
            simp only [beq_iff_eq] at h3
            cases hl : ldrop off l with
            | none => simp [hl] at h
            | some l' =>
              cases hl2 : ltake size l' with
              | none => simp [hl, hl2] at h
              | some l'' =>
                simp only [hl, hl2, Option.some.injEq] at h; subst h
                have e1 := ldrop_eq hl
                obtain ⟨e2, e3⟩ := ltake_eq hl2
                have hag : (isAgg fd.type).run P w = .ok true w := by
                  unfold isAgg
                  split at h4
                  · rename_i fs' hu'; simp [run_underlying hu']
                  · rename_i m e hu'; simp [run_underlying hu']
                  · cases h4
                  · cases h4
                have hx' : List.take i.size (List.drop fd.offset l) = l'' := by rw [h1, h3, e1, e2]
                simp [execOp, ho, ev_sound hk hx, Instr.field, run_underlying hu, hfd, asAgg, part, hag, sizeOf, typeInfo, hi, hx']
          · cases h3
        · cases hfit
      · cases hfit
    · rename_i off size l hf hx
      have hfit := hT.fld hf
      unfold fieldFits at hfit
      split at hfit
      · rename_i fs hu
        split at hfit
        · rename_i fd hfd
          simp only [Bool.and_eq_true, beq_iff_eq, bne_iff_ne, ne_eq] at hfit
          obtain ⟨⟨⟨h1, h2⟩, h3⟩, h4⟩ := hfit
          split at h
          · rename_i u r hl
            simp only [Option.some.injEq] at h; subst h
            have e1 := ldrop_eq hl
            have hag : (isAgg fd.type).run P w = .ok false w := by
              unfold isAgg
              split at h4
              · cases h4
              · cases h4
              · rename_i d hn1 hn2 hu'
                cases d <;> first | (simp [run_underlying hu']; done) | (exfalso; exact hn1 _ rfl) | (exfalso; exact hn2 _ _ rfl)
              · cases h4
            have hg : l[fd.offset]? = some u := by
              rw [h1]
              have := congrArg (fun z => z[0]?) e1
              simpa [List.getElem?_drop] using this
            simp [execOp, ho, ev_sound hk hx, Instr.field, run_underlying hu, hfd, asAgg, part, hag, hg]
          · cases h
        · cases hfit
      · cases hfit
    · cases h
  · -- extract
    rename_i x i ho
    split at h
    · rename_i l hx
      split at h
      · rename_i u r hl
        simp only [Option.some.injEq] at h; subst h
        have e1 := ldrop_eq hl
        have hg : l[i]? = some u := by
          have := congrArg (fun z => z[0]?) e1
          simpa [List.getElem?_drop] using this
        simp [execOp, ho, ev_sound hk hx, Instr.extract, hg]
      · cases h
    · cases h
  · -- makeFunc
    rename_i fn first cap ho
    split at h
    · rename_i l l' h1 h2
      simp only [Option.some.injEq] at h; subst h
      have e1 := evs_sound hk h1
      have e2 := evs_sound hk h2
      have e1' : first.map a.eval = ⟨l⟩ := Array.toList_inj.1 (by simpa using e1)
      have e2' : cap.map a.eval = ⟨l'⟩ := Array.toList_inj.1 (by simpa using e2)
      simp [execOp, ho, Instr.makeFunc, e1', e2']
    · cases h
  · -- len
    rename_i xs ts ho
    split at h
    · rename_i x t hxs hts
      have e1 : xs = #[x] := by rw [← Array.toList_inj]; exact hxs
      have e2 : ts = #[t] := by rw [← Array.toList_inj]; exact hts
      subst e1; subst e2
      split at h
      · rename_i s hx
        split at h
        · rename_i hs
          simp only [Option.some.injEq] at h; subst h
          simp [execOp, ho, resolve, invoke, builtin, Builtin.len_, ev_sound hk hx, run_underlying (hT.str hs), goInt]
        · cases h
      · rename_i b l c hx
        split at h
        · rename_i size hs
          obtain ⟨e, i, hu, _⟩ := hT.sl hs
          simp only [Option.some.injEq] at h; subst h
          simp [execOp, ho, resolve, invoke, builtin, Builtin.len_, ev_sound hk hx, run_underlying hu, goInt]
        · cases h
      · cases h
    · cases h
  · cases h
end
def CW (P : Program) (c : Code) (Q : Exit → Act → World → Prop) (n : Nat) (fr : Fr) (w : World) : Prop := ∀ a, Kn n fr a → c.wp P Q a w
def LW (P : Program) (ops : Array Oper) (Q : Exit → Act → World → Prop) (l : List Oper) (n : Nat) (fr : Fr) (w : World) : Prop := ∀ a, Kn n fr a → wpList P ops Q l a w
def QW (Q : Exit → Act → World → Prop) (e : Exit) (n : Nat) (fr : Fr) (w : World) : Prop := ∀ a, Kn n fr a → Q e a w
def Ret (P : Program) (f : FuncId) (args : List Value) (w : World) (R : Value → World → Prop) : Prop :=
  Calls P f ⟨args⟩ w fun e w' => ∃ v, e = .returned v ∧ R v w'
theorem Ret.mono {P : Program} {f : FuncId} {args : List Value} {w : World} {R R' : Value → World → Prop} (h : Ret P f args w R) (hr : ∀ v w', R v w' → R' v w') : Ret P f args w R' :=
  Calls.mono h fun _ _ ⟨v, e, r⟩ => ⟨v, e, hr _ _ r⟩
section
variable {P : Program} {T : Tab} {n : Nat} {fr : Fr} {w : World} {Q Q' : Exit → Act → World → Prop} {ops : Array Oper} {rest : List Oper}
theorem cw_sub {c : Code} {fr' : Fr} (hs : subB fr' fr) (h : CW P c Q n fr' w) : CW P c Q n fr w := fun a hk => h a (hk.sub (sub_of hs))
theorem qw_sub {e : Exit} {fr' : Fr} (hs : subB fr' fr) (h : QW Q e n fr' w) : QW Q e n fr w := fun a hk => h a (hk.sub (sub_of hs))
theorem cw_seq {x y : Code} (h : CW P x (Exit.then (fun a w => y.wp P Q a w) Q) n fr w) : CW P (.seq x y) Q n fr w := fun a hk => wp_seq (h a hk)
theorem cw_skip (h : QW Q .normal n fr w) : CW P .skip Q n fr w := fun a hk => wp_skip (h a hk)
theorem cw_ret (h : QW Q .ret n fr w) : CW P .ret Q n fr w := fun a hk => wp_ret (h a hk)
theorem cw_exit {id : Nat} (h : QW Q (.exit id) n fr w) : CW P (.exit id) Q n fr w := fun a hk => wp_exit (h a hk)
theorem cw_block {id : Nat} {c : Code} (h : CW P c (Exit.inBlock id Q) n fr w) : CW P (.block id c) Q n fr w := fun a hk => wp_block (h a hk)
theorem cw_region {id : Nat} {l : List Oper} (h : LW P l.toArray Q l n fr w) : CW P (.region id l.toArray false) Q n fr w := fun a hk => wp_region_lit (h a hk)
theorem cw_cond {c : Operand} {x y : Code} {b : Bool} (hc : ev n fr c = some (.bool b)) (ht : b = true → CW P x Q n fr w) (hf : b = false → CW P y Q n fr w) : CW P (.cond c x y) Q n fr w :=
  fun a hk => wp_cond_split (ev_sound hk hc) (fun h => ht h a hk) (fun h => hf h a hk)
theorem cw_cond_t {c : Operand} {x y : Code} {b : Bool} (hc : ev n fr c = some (.bool b)) (hb : b = true) (h : CW P x Q n fr w) : CW P (.cond c x y) Q n fr w := cw_cond hc (fun _ => h) (fun h' => by rw [hb] at h'; cases h')
theorem cw_cond_f {c : Operand} {x y : Code} {b : Bool} (hc : ev n fr c = some (.bool b)) (hb : b = false) (h : CW P y Q n fr w) : CW P (.cond c x y) Q n fr w := cw_cond hc (fun h' => by rw [hb] at h'; cases h') (fun _ => h)
theorem qw_then {y : Code} (h : CW P y Q n fr w) : QW (Exit.then (fun a w => y.wp P Q a w) Q') .normal n fr w := h
theorem qw_then_ret {K : Act → World → Prop} (h : QW Q .ret n fr w) : QW (Exit.then K Q) .ret n fr w := h
theorem qw_then_exit {K : Act → World → Prop} {id : Nat} (h : QW Q (.exit id) n fr w) : QW (Exit.then K Q) (.exit id) n fr w := h
theorem qw_block {id : Nat} (h : QW Q .normal n fr w) : QW (Exit.inBlock id Q) .normal n fr w := h
theorem qw_block_ret {id : Nat} (h : QW Q .ret n fr w) : QW (Exit.inBlock id Q) .ret n fr w := h
theorem qw_block_exit {id : Nat} (h : QW Q .normal n fr w) : QW (Exit.inBlock id Q) (.exit id) n fr w := fun a hk => by
  show (if id = id then Q .normal a w else _)
  rw [if_pos rfl]; exact h a hk
theorem cw_loop {α : Type} {c : Code} (F : α → Fr) (I : α → World → Prop) (μ : α → Nat) (x0 : α) (hs : subB (F x0) fr) (h0 : I x0 w)
    (round : ∀ x w', I x w' → CW P c (Exit.then (fun a w2 => ∃ y, Kn n (F y) a ∧ I y w2 ∧ μ y < μ x) Q) n (F x) w') : CW P (.loop c) Q n fr w := by
  intro a hk
  have key : ∀ (m : Nat) (x : α) (a : Act) (w : World), μ x = m → Kn n (F x) a → I x w → ∀ (b : Frame) (k : List Item) (cs : List Frame),
      ∃ e a' w', Q e a' w' ∧ Arrives P (lone (b.at a (.code c :: .inLoop c :: k)) cs w) b k cs e a' w' := by
    intro m
    induction m using Nat.strongRecOn with
    | _ m ih =>
      intro x a w hm hk hI b k cs
      obtain ⟨e, a₁, w₁, hq, harr⟩ := round x w hI a hk b (.inLoop c :: k) cs
      cases e with
      | normal =>
        obtain ⟨y, hk1, hI1, hlt⟩ := hq
        obtain ⟨e₂, a₂, w₂, hq₂, harr₂⟩ := ih (μ y) (hm ▸ hlt) y a₁ w₁ rfl hk1 hI1 b k cs
        exact ⟨e₂, a₂, w₂, hq₂, .of_steps (Steps.trans harr (.one step_inLoop)) harr₂⟩
      | exit id => exact ⟨_, a₁, w₁, hq, .pass (x := .inLoop c) rfl (fun _ _ => .inl (by simp)) harr⟩
      | goto l => exact ⟨_, a₁, w₁, hq, .pass (x := .inLoop c) rfl (fun _ _ => .inl (by simp)) harr⟩
      | ret => exact ⟨_, a₁, w₁, hq, .pass (x := .inLoop c) rfl (fun _ _ => .inl (by simp)) harr⟩
      | panic ch => exact ⟨_, a₁, w₁, hq, .pass (x := .inLoop c) rfl (fun _ _ => .inl (by simp)) harr⟩
      | outgrown => exact ⟨_, a₁, w₁, hq, .pass (x := .inLoop c) rfl (fun _ _ => .inl (by simp)) harr⟩
  intro b k cs
  obtain ⟨e, a', w', hq, harr⟩ := key _ x0 a w rfl (hk.sub (sub_of hs)) h0 b k cs
  exact ⟨e, a', w', hq, .of_steps (.one step_loop) harr⟩
theorem qw_round {α : Type} {F : α → Fr} {I : α → World → Prop} {μ : α → Nat} {x : α} (y : α) (hs : subB (F y) fr) (hI : I y w) (hlt : μ y < μ x) :
    QW (Exit.then (fun a w2 => ∃ y, Kn n (F y) a ∧ I y w2 ∧ μ y < μ x) Q) .normal n fr w := fun _ hk => ⟨y, hk.sub (sub_of hs), hI, hlt⟩
theorem lw_nil (h : QW Q .normal n fr w) : LW P ops Q [] n fr w := fun a hk => wpList_nil (h a hk)
theorem lw_run {o : Oper} (hg : o.guard = none) {d : Nat} (hd : o.dst = some d) {v : Value} {w' : World} (h : ∀ a, Kn n fr a → (execOp a.eval o).run P w = .ok (.value v) w')
    (k : LW P ops Q rest n ((d, v) :: fr) w') : LW P ops Q (o :: rest) n fr w := fun a hk =>
  wpList_plain hg fun K hK => by
    unfold Oper.wp
    rw [h a hk]
    show K (a.put o.dst v) w'
    rw [hd]
    exact hK _ _ (k _ (hk.put d v))
theorem lw_run_skip {o : Oper} (hg : o.guard = none) (hd : o.dst = none) {w' : World} (h : ∀ a, Kn n fr a → (execOp a.eval o).run P w = .ok .skip w')
    (k : LW P ops Q rest n fr w') : LW P ops Q (o :: rest) n fr w := fun a hk =>
  wpList_plain hg fun K hK => by
    unfold Oper.wp
    rw [h a hk]
    show K (a.put o.dst undef) w'
    rw [hd]
    exact hK _ _ (k _ hk)
theorem lw_pure (hT : TabOk P T) {d : Nat} {op : Op} {ty : TypeId} {ps : String} {af : Array Edge} {v : Value} (h : pv T n fr op = some v) (k : LW P ops Q rest n ((d, v) :: fr) w) :
    LW P ops Q ({ dst := some d, op := op, type := ty, pos := ps, after := af, guard := none } :: rest) n fr w :=
  lw_run rfl rfl (fun _ hk => pv_sound hT hk h w) k
theorem lw_add {d : Nat} {x y : Operand} {t t' : TypeId} {ty : TypeId} {ps : String} {af : Array Edge} {a b : Int} (hx : ev n fr x = some (.int .i64 a)) (hy : ev n fr y = some (.int .i64 b))
    (hl : -9223372036854775808 ≤ a + b) (hu : a + b ≤ 9223372036854775807) (k : LW P ops Q rest n ((d, .int .i64 (a + b)) :: fr) w) :
    LW P ops Q ({ dst := some d, op := .binOp .add t x y t', type := ty, pos := ps, after := af, guard := none } :: rest) n fr w :=
  lw_run rfl rfl (fun a' hk => by simp [execOp, ev_sound hk hx, ev_sound hk hy, eqGuard, binOp, Op.intArith]; exact IntWalk.i64_in _ ⟨hl, hu⟩) k
theorem lw_sub {d : Nat} {x y : Operand} {t t' : TypeId} {ty : TypeId} {ps : String} {af : Array Edge} {a b : Int} (hx : ev n fr x = some (.int .i64 a)) (hy : ev n fr y = some (.int .i64 b))
    (hl : -9223372036854775808 ≤ a - b) (hu : a - b ≤ 9223372036854775807) (k : LW P ops Q rest n ((d, .int .i64 (a - b)) :: fr) w) :
    LW P ops Q ({ dst := some d, op := .binOp .sub t x y t', type := ty, pos := ps, after := af, guard := none } :: rest) n fr w :=
  lw_run rfl rfl (fun a' hk => by simp [execOp, ev_sound hk hx, ev_sound hk hy, eqGuard, binOp, Op.intArith]; exact IntWalk.i64_in _ ⟨hl, hu⟩) k
def gd (ops : Array Oper) (n : Nat) (fr : Fr) (j : Nat) : Option (Nat × Value) :=
  match ops.toList[j]? with
  | some ⟨some d, _, _, _, _, _⟩ => match Nat.blt d n, lk fr d with
    | true, some v => some (d, v)
    | _, _ => none
  | _ => none
theorem gd_sound {ops : Array Oper} {n : Nat} {fr : Fr} {a : Act} (hk : Kn n fr a) {j d : Nat} {b : Bool} (h : gd ops n fr j = some (d, .bool b)) : yielded ops a.tmps j = some b ∧ lk fr d = some (.bool b) := by
  unfold gd at h
  split at h
  · rename_i d' op ty ps af g ho
    split at h
    · rename_i v hn hl
      simp only [Option.some.injEq, Prod.mk.injEq] at h
      obtain ⟨rfl, rfl⟩ := h
      have hlt : d' < n := by simpa [Nat.blt_eq] using hn
      refine ⟨?_, hl⟩
      have := hk.2.2 d' _ hl hlt
      have ho' : ops[j]? = some ⟨some d', op, ty, ps, af, g⟩ := by simpa using ho
      simp [yielded, ho', this]
    · cases h
  · cases h
theorem lw_guard_skip {j d : Nat} {b want : Bool} {dst : Option Tmp} {op : Op} {ty : TypeId} {ps : String} {af : Array Edge} (h : gd ops n fr j = some (d, .bool b)) (hne : (b == want) = false)
    (k : ∀ a, Kn n fr a → wpList P ops Q rest (a.put dst undef) w) : LW P ops Q ({ dst := dst, op := op, type := ty, pos := ps, after := af, guard := some (j, want) } :: rest) n fr w := fun a hk =>
  wpList_skip (by
    obtain ⟨h1, _⟩ := gd_sound hk h
    unfold Region.wanted
    simp only [h1]
    have : (some b == some want) = (b == want) := rfl
    rw [this]; exact hne) (k a hk)
theorem lw_guard_off {j d : Nat} {b want : Bool} {dst : Nat} {op : Op} {ty : TypeId} {ps : String} {af : Array Edge} (h : gd ops n fr j = some (d, .bool b)) (hne : (b == want) = false)
    (k : LW P ops Q rest n ((dst, undef) :: fr) w) : LW P ops Q ({ dst := some dst, op := op, type := ty, pos := ps, after := af, guard := some (j, want) } :: rest) n fr w :=
  lw_guard_skip h hne fun _ hk => k _ (hk.put dst undef)
theorem lw_guard_on {j d : Nat} {b want : Bool} {dst : Option Tmp} {op : Op} {ty : TypeId} {ps : String} {af : Array Edge} (h : gd ops n fr j = some (d, .bool b)) (he : (b == want) = true)
    (k : LW P ops Q ({ dst := dst, op := op, type := ty, pos := ps, after := af, guard := none } :: rest) n fr w) : LW P ops Q ({ dst := dst, op := op, type := ty, pos := ps, after := af, guard := some (j, want) } :: rest) n fr w := fun a hk => by
  obtain ⟨h1, _⟩ := gd_sound hk h
  have h2 := k a hk
  have hw : Region.wanted { dst := dst, op := op, type := ty, pos := ps, after := af, guard := some (j, want) } (yielded ops a.tmps) = true := by
    unfold Region.wanted
    simp only [h1]
    have : (some b == some want) = (b == want) := rfl
    rw [this]; exact he
  unfold wpList at h2 ⊢
  rw [if_pos (by rfl)] at h2
  rw [if_pos hw]
  exact h2
theorem gd_undef {ops : Array Oper} {n : Nat} {fr : Fr} {a : Act} (hk : Kn n fr a) {j d : Nat} (h : gd ops n fr j = some (d, undef)) : yielded ops a.tmps j = none := by
  unfold gd at h
  split at h
  · rename_i d' op ty ps af g ho
    split at h
    · rename_i v hn hl
      simp only [Option.some.injEq, Prod.mk.injEq] at h
      obtain ⟨rfl, rfl⟩ := h
      have hlt : d' < n := by simpa [Nat.blt_eq] using hn
      have := hk.2.2 d' _ hl hlt
      have ho' : ops[j]? = some ⟨some d', op, ty, ps, af, g⟩ := by simpa using ho
      simp [yielded, ho', this, undef]
    · cases h
  · cases h
theorem lw_goff_u {j d : Nat} {want : Bool} {dst : Nat} {op : Op} {ty : TypeId} {ps : String} {af : Array Edge} (h : gd ops n fr j = some (d, undef))
    (k : LW P ops Q rest n ((dst, undef) :: fr) w) : LW P ops Q ({ dst := some dst, op := op, type := ty, pos := ps, after := af, guard := some (j, want) } :: rest) n fr w := fun a hk =>
  wpList_skip (by
    have h1 := gd_undef hk h
    unfold Region.wanted
    simp only [h1]
    rfl) (k _ (hk.put dst undef))
theorem lw_goff_t {j d : Nat} {b : Bool} {dst : Nat} {op : Op} {ty : TypeId} {ps : String} {af : Array Edge} (h : gd ops n fr j = some (d, .bool b)) (hb : b = true)
    (k : LW P ops Q rest n ((dst, undef) :: fr) w) : LW P ops Q ({ dst := some dst, op := op, type := ty, pos := ps, after := af, guard := some (j, false) } :: rest) n fr w := lw_guard_off h (by rw [hb]; rfl) k
theorem lw_goff_f {j d : Nat} {b : Bool} {dst : Nat} {op : Op} {ty : TypeId} {ps : String} {af : Array Edge} (h : gd ops n fr j = some (d, .bool b)) (hb : b = false)
    (k : LW P ops Q rest n ((dst, undef) :: fr) w) : LW P ops Q ({ dst := some dst, op := op, type := ty, pos := ps, after := af, guard := some (j, true) } :: rest) n fr w := lw_guard_off h (by rw [hb]; rfl) k
theorem lw_gon_t {j d : Nat} {b : Bool} {dst : Option Tmp} {op : Op} {ty : TypeId} {ps : String} {af : Array Edge} (h : gd ops n fr j = some (d, .bool b)) (hb : b = true)
    (k : LW P ops Q ({ dst := dst, op := op, type := ty, pos := ps, after := af, guard := none } :: rest) n fr w) : LW P ops Q ({ dst := dst, op := op, type := ty, pos := ps, after := af, guard := some (j, true) } :: rest) n fr w := lw_guard_on h (by rw [hb]; rfl) k
theorem lw_gon_f {j d : Nat} {b : Bool} {dst : Option Tmp} {op : Op} {ty : TypeId} {ps : String} {af : Array Edge} (h : gd ops n fr j = some (d, .bool b)) (hb : b = false)
    (k : LW P ops Q ({ dst := dst, op := op, type := ty, pos := ps, after := af, guard := none } :: rest) n fr w) : LW P ops Q ({ dst := dst, op := op, type := ty, pos := ps, after := af, guard := some (j, false) } :: rest) n fr w := lw_guard_on h (by rw [hb]; rfl) k
theorem lw_guard {j d : Nat} {b want : Bool} {dst : Option Tmp} {op : Op} {ty : TypeId} {ps : String} {af : Array Edge} (h : gd ops n fr j = some (d, .bool b))
    (ht : b = true → LW P ops Q ({ dst := dst, op := op, type := ty, pos := ps, after := af, guard := some (j, want) } :: rest) n ((d, .bool true) :: fr) w)
    (hf : b = false → LW P ops Q ({ dst := dst, op := op, type := ty, pos := ps, after := af, guard := some (j, want) } :: rest) n ((d, .bool false) :: fr) w) :
    LW P ops Q ({ dst := dst, op := op, type := ty, pos := ps, after := af, guard := some (j, want) } :: rest) n fr w := fun a hk => by
  obtain ⟨_, h2⟩ := gd_sound hk h
  cases b with
  | true => exact ht rfl a (hk.also h2)
  | false => exact hf rfl a (hk.also h2)
theorem run_callFunc_go {f : FuncId} {fn : Func} {args : Array Value} (h1 : P.funcs[f]? = some fn) (h3 : (fn.name == "runtime.NumGoroutine") = false) (hb : fn.body.isNone = false) : (callFunc f args).run P w = .ok (.enter f args) w := by
  simp only [callFunc, Sem.run_bind, run_program, Result.andThen_ok, h1, h3, hb, Bool.false_eq_true, if_false, Sem.run_pure]
theorem lw_call (hT : TabOk P T) {d f : Nat} {xs : Array Operand} {ts : Array TypeId} {ty : TypeId} {ps : String} {af : Array Edge} {args : List Value} {R : Value → World → Prop}
    (hf : memN T.fns f = true) (hx : evs n fr xs.toList = some args) (h : Ret P f args w R) (k : ∀ v w', R v w' → LW P ops Q rest n ((d, v) :: fr) w') :
    LW P ops Q ({ dst := some d, op := .call ⟨.value (.func f), xs, ts⟩, type := ty, pos := ps, after := af, guard := none } :: rest) n fr w := fun a hk =>
  wpList_plain rfl fun K hK => by
    obtain ⟨fn, h1, h2, h3⟩ := hT.fn hf
    have e : xs.map a.eval = ⟨args⟩ := Array.toList_inj.1 (by simpa using evs_sound hk hx)
    have hb : fn.body.isNone = false := by cases hb : fn.body <;> simp_all
    have hr : (execOp a.eval { dst := some d, op := .call ⟨.value (.func f), xs, ts⟩, type := ty, pos := ps, after := af, guard := none }).run P w = .ok (.enter f ⟨args⟩) w := by
      rw [execOp_call_go, e]
      simpa using run_callFunc_go (P := P) (w := w) h1 h3 hb
    unfold Oper.wp
    rw [hr]
    show Calls P f ⟨args⟩ w _
    refine Calls.mono h ?_
    rintro _ w' ⟨v, rfl, hR⟩
    exact hK _ _ (k v w' hR _ (hk.put d v))
theorem lw_call_fn (hT : TabOk P T) {d f : Nat} {x : Operand} {xs : Array Operand} {ts : Array TypeId} {ty : TypeId} {ps : String} {af : Array Edge} {args l c : List Value} {R : Value → World → Prop}
    (hc : ev n fr x = some (.func (.func f) ⟨l⟩ ⟨c⟩)) (hf : memN T.fns f = true) (hx : evs n fr xs.toList = some args) (h : Ret P f (l ++ args ++ c) w R) (k : ∀ v w', R v w' → LW P ops Q rest n ((d, v) :: fr) w') :
    LW P ops Q ({ dst := some d, op := .call ⟨.value x, xs, ts⟩, type := ty, pos := ps, after := af, guard := none } :: rest) n fr w := fun a hk =>
  wpList_plain rfl fun K hK => by
    obtain ⟨fn, h1, h2, h3⟩ := hT.fn hf
    have e : xs.map a.eval = ⟨args⟩ := Array.toList_inj.1 (by simpa using evs_sound hk hx)
    have hb : fn.body.isNone = false := by cases hb : fn.body <;> simp_all
    have hr : (execOp a.eval { dst := some d, op := .call ⟨.value x, xs, ts⟩, type := ty, pos := ps, after := af, guard := none }).run P w = .ok (.enter f ⟨l ++ args ++ c⟩) w := by
      have := run_callFunc_go (P := P) (w := w) (args := ⟨l ++ args ++ c⟩) h1 h3 hb
      simpa [execOp, resolve, ev_sound hk hc, Deferred.ofValue, e, invoke] using this
    unfold Oper.wp
    rw [hr]
    show Calls P f ⟨l ++ args ++ c⟩ w _
    refine Calls.mono h ?_
    rintro _ w' ⟨v, rfl, hR⟩
    exact hK _ _ (k v w' hR _ (hk.put d v))
end
def zipFr : Nat → List Value → Option Fr
  | _, [] => some []
  | i, v :: r => match zipFr (i + 1) r with
    | some l => some ((i, v) :: l)
    | none => none
theorem lk_zipFr : ∀ (l : List Value) (k i : Nat) (v : Value) (fr : Fr), zipFr k l = some fr → lk fr i = some v → k ≤ i ∧ l[i - k]? = some v
  | [], _, _, _, _, h0, h => by simp only [zipFr, Option.some.injEq] at h0; subst h0; simp [lk] at h
  | u :: r, k, i, v, fr, h0, h => by
    simp only [zipFr] at h0
    cases hz : zipFr (k + 1) r with
    | none => simp [hz] at h0
    | some l =>
    simp only [hz, Option.some.injEq] at h0
    subst h0
    simp only [lk] at h
    cases hb : Nat.beq i k with
    | true =>
      simp only [hb, Option.some.injEq] at h
      have := Nat.eq_of_beq_eq_true hb
      subst this; subst h
      simp
    | false =>
      simp only [hb] at h
      obtain ⟨h1, h2⟩ := lk_zipFr r (k + 1) i v l hz h
      refine ⟨by omega, ?_⟩
      have : i - k = (i - (k + 1)) + 1 := by omega
      rw [this]; simpa using h2
theorem ret_of {P : Program} {f : FuncId} {fn : Func} {c : Code} {args : List Value} {w : World} {R : Value → World → Prop} {n : Nat} {fr : Fr} (hf : P.funcs[f]? = some fn) (hn : fn.ntmps = n) (hb : fn.body = some c)
    (hl : Nat.ble args.length n = true) (hz : zipFr 0 args = some fr) (h : CW P c (bodyPost P fn fun e w' => ∃ v, e = .returned v ∧ R v w') n fr w) : Ret P f args w R := by
  have hle : args.length ≤ n := Nat.le_of_ble_eq_true hl
  refine calls_of_wp hf hb (h _ ⟨?_, rfl, ?_⟩)
  · simp [hn]; omega
  · intro i v hv hi
    obtain ⟨_, h2⟩ := lk_zipFr args 0 i v fr hz hv
    have hi' : i < args.length := by
      rcases Nat.lt_or_ge i args.length with h' | h'
      · exact h'
      · simp [List.getElem?_eq_none h'] at h2
    simp only [Nat.sub_zero] at h2
    rw [Array.getElem?_append_left (by simpa using hi')]
    simpa using h2
def Blk (w : World) (b : Nat) (cs : List Value) (t : TypeId) : Prop := w.heap[b]? = some (.cells ⟨cs⟩ t (0, 0))
theorem Blk.cell {w : World} {b : Nat} {cs : List Value} {t : TypeId} (h : Blk w b cs t) (i : Nat) : w.cell? ⟨b, i, none⟩ = cs[i]? := by
  unfold Blk at h
  simp [World.cell?, h]
theorem Blk.frozen {w : World} {b : Nat} {cs : List Value} {t : TypeId} (h : Blk w b cs t) (i : Nat) (s : Option Nat) : w.frozen? ⟨b, i, s⟩ = false := by
  unfold Blk at h
  simp [World.frozen?, h]
theorem Blk.lt {w : World} {b : Nat} {cs : List Value} {t : TypeId} (h : Blk w b cs t) : b < w.heap.size := (Array.getElem?_eq_some_iff.1 h).1
def Rd (w : World) (b o : Nat) (vs : List Value) : Prop := ∀ j v, vs[j]? = some v → w.cell? ⟨b, o + j, none⟩ = some v
theorem Blk.rd {w : World} {b : Nat} {cs : List Value} {t : TypeId} (h : Blk w b cs t) (o k : Nat) : Rd w b o ((cs.drop o).take k) := by
  intro j v hj
  rw [h.cell, ← hj, List.getElem?_take]
  split
  · simp
  · rename_i hk; rw [List.getElem?_take, if_neg hk] at hj; cases hj
theorem Rd.one {w : World} {b o : Nat} {v : Value} (h : w.cell? ⟨b, o, none⟩ = some v) : Rd w b o [v] := by
  intro j u hj
  match j, hj with
  | 0, hj => simp at hj; subst hj; simpa using h
theorem run_loadCells_rd {P : Program} {w : World} {b o : Nat} {vs : List Value} (h : Rd w b o vs) : (loadCells ⟨b, o, none⟩ vs.length).run P w = .ok ⟨vs⟩ w := by
  have := run_loadCells_list (P := P) (w := w) ⟨b, o, none⟩ vs (fun j v hj => by rw [addr_add]; exact h j v hj)
  simpa using this
theorem run_loadVar_agg {P : Program} {T : Tab} (hT : TabOk P T) {w : World} {t size b o : Nat} {vs : List Value} (ht : look T.kinds t = some (true, size)) (hl : vs.length = size) (h : Rd w b o vs) :
    (loadVar t ⟨b, o, none⟩).run P w = .ok (.agg ⟨vs⟩) w := by
  obtain ⟨i, d, hi, hs, hu, hd⟩ := hT.kind ht
  have hag : (isAgg t).run P w = .ok true w := by
    unfold isAgg
    cases d <;> simp_all [run_underlying hu]
  simp only [loadVar, Sem.run_bind, hag, Result.andThen_ok, if_true, sizeOf, typeInfo, run_program, hi, Sem.run_pure, hs]
  rw [← hl, run_loadCells_rd h]; rfl
theorem run_loadVar_one {P : Program} {T : Tab} (hT : TabOk P T) {w : World} {t size b o : Nat} {v : Value} (ht : look T.kinds t = some (false, size)) (h : w.cell? ⟨b, o, none⟩ = some v) :
    (loadVar t ⟨b, o, none⟩).run P w = .ok v w := by
  obtain ⟨i, d, hi, hs, hu, hd⟩ := hT.kind ht
  have hag : (isAgg t).run P w = .ok false w := by
    unfold isAgg
    cases d <;> simp_all [run_underlying hu]
  simp [loadVar, hag, h]
section
variable {P : Program} {T : Tab} {n : Nat} {fr : Fr} {w : World} {Q : Exit → Act → World → Prop} {ops : Array Oper} {rest : List Oper}
theorem lw_load (hT : TabOk P T) {d t size : Nat} {x : Operand} {ty : TypeId} {ps : String} {af : Array Edge} {b o : Nat} {v : Value} (hx : ev n fr x = some (.pointer (some ⟨b, o, none⟩)))
    (ht : look T.kinds t = some (false, size)) (hc : w.cell? ⟨b, o, none⟩ = some v) (k : LW P ops Q rest n ((d, v) :: fr) w) :
    LW P ops Q ({ dst := some d, op := .load t x, type := ty, pos := ps, after := af, guard := none } :: rest) n fr w :=
  lw_run rfl rfl (fun a hk => by simp [execOp, ev_sound hk hx, Instr.loadAt, Instr.sureAddr, run_loadVar_one hT ht hc]) k
theorem lw_load_agg (hT : TabOk P T) {d t size : Nat} {x : Operand} {ty : TypeId} {ps : String} {af : Array Edge} {b o : Nat} {vs : List Value} (hx : ev n fr x = some (.pointer (some ⟨b, o, none⟩)))
    (ht : look T.kinds t = some (true, size)) (hl : Nat.beq vs.length size = true) (hc : Rd w b o vs) (k : LW P ops Q rest n ((d, .agg ⟨vs⟩) :: fr) w) :
    LW P ops Q ({ dst := some d, op := .load t x, type := ty, pos := ps, after := af, guard := none } :: rest) n fr w :=
  lw_run rfl rfl (fun a hk => by simp [execOp, ev_sound hk hx, Instr.loadAt, Instr.sureAddr, run_loadVar_agg hT ht (Nat.eq_of_beq_eq_true hl) hc]) k
theorem lw_index (hT : TabOk P T) {d t size : Nat} {x y : Operand} {ty : TypeId} {ps : String} {af : Array Edge} {b o len cap : Nat} {q : IntKind} {i : Int} (hx : ev n fr x = some (.slice (some ⟨b, o, none⟩) len cap))
    (hy : ev n fr y = some (.int q i)) (ht : look T.sls t = some size) (j : Nat) (hj : i = (j : Int)) (hlt : j < len) (k : LW P ops Q rest n ((d, .pointer (some ⟨b, o + j * size, none⟩)) :: fr) w) :
    LW P ops Q ({ dst := some d, op := .indexAddr t x y, type := ty, pos := ps, after := af, guard := none } :: rest) n fr w := by
  obtain ⟨e, inf, hu, hi, hs⟩ := hT.sl ht
  subst hj
  refine lw_run rfl rfl (fun a hk => ?_) k
  simp [execOp, ev_sound hk hx, ev_sound hk hy, Instr.indexAt, asIntOf, run_underlying hu, sizeOf, typeInfo, hi, hs, addr_add, hlt]
theorem lw_index_arr (hT : TabOk P T) {d t size m : Nat} {x y : Operand} {ty : TypeId} {ps : String} {af : Array Edge} {b o : Nat} {q : IntKind} {i : Int} (hx : ev n fr x = some (.pointer (some ⟨b, o, none⟩)))
    (hy : ev n fr y = some (.int q i)) (ht : look T.arrs t = some (m, size)) (j : Nat) (hj : i = (j : Int)) (hlt : j < m) (k : LW P ops Q rest n ((d, .pointer (some ⟨b, o + j * size, none⟩)) :: fr) w) :
    LW P ops Q ({ dst := some d, op := .indexAddr t x y, type := ty, pos := ps, after := af, guard := none } :: rest) n fr w := by
  obtain ⟨e, inf, hu, hi, hs⟩ := hT.arr ht
  subst hj
  refine lw_run rfl rfl (fun a hk => ?_) k
  simp [execOp, ev_sound hk hx, ev_sound hk hy, Instr.indexAt, asIntOf, run_underlying hu, sizeOf, typeInfo, hi, hs, addr_add, hlt, Instr.sureAddr]
theorem lw_byte (hT : TabOk P T) {d t : Nat} {x y : Operand} {ty : TypeId} {ps : String} {af : Array Edge} {s : ByteArray} {q : IntKind} {i : Int} (hx : ev n fr x = some (.string s))
    (hy : ev n fr y = some (.int q i)) (ht : memN T.strs t = true) (j : Nat) (hj : i = (j : Int)) (hlt : j < s.size) (k : LW P ops Q rest n ((d, .int .u8 (s[j].toNat : Nat)) :: fr) w) :
    LW P ops Q ({ dst := some d, op := .index t x y, type := ty, pos := ps, after := af, guard := none } :: rest) n fr w := by
  subst hj
  refine lw_run rfl rfl (fun a hk => ?_) k
  simp [execOp, ev_sound hk hx, ev_sound hk hy, Instr.index, asIntOf, run_underlying (hT.str ht), hlt]
end
def rv1 (a : Act) : ResultVar → Sem Value
  | .tmp t => pure (a.tmps.getD t undef)
  | .cell x t => do loadVar t (← asAddr (a.tmps.getD x undef))
def rvs (n : Nat) (fr : Fr) : List ResultVar → Option (List Value)
  | [] => some []
  | .tmp t :: r => match Nat.blt t n, lk fr t, rvs n fr r with
    | true, some v, some l => some (v :: l)
    | _, _, _ => none
  | .cell _ _ :: _ => none
def oneOr : List Value → Value
  | [v] => v
  | l => .tuple ⟨l⟩
theorem rvs_sound {P : Program} {n : Nat} {fr : Fr} {a : Act} (hk : Kn n fr a) {w : World} : ∀ {l : List ResultVar} {vs : List Value}, rvs n fr l = some vs → (l.mapM (rv1 a)).run P w = .ok vs w
  | [], vs, h => by simp only [rvs, Option.some.injEq] at h; subst h; rfl
  | .tmp t :: r, vs, h => by
    simp only [rvs] at h
    split at h
    · rename_i v l hb hl hr
      simp only [Option.some.injEq] at h; subst h
      have ht : t < n := by simpa [Nat.blt_eq] using hb
      have e := hk.2.2 t v hl ht
      have := rvs_sound (P := P) hk (w := w) hr
      simp [List.mapM_cons, rv1, Array.getD_eq_getD_getElem?, e, this]
    · cases h
  | .cell _ _ :: _, vs, h => by simp [rvs] at h
theorem rvs_cell {P : Program} {T : Tab} (hT : TabOk P T) {n : Nat} {fr : Fr} {a : Act} (hk : Kn n fr a) {w : World} {x t size b o : Nat} {vs : List Value} (hx : ev n fr (.tmp x) = some (.pointer (some ⟨b, o, none⟩)))
    (ht : look T.kinds t = some (true, size)) (hl : Nat.beq vs.length size = true) (hc : Rd w b o vs) {r : List ResultVar} {us : List Value} (h : rvs n fr r = some us) :
    ((ResultVar.cell x t :: r).mapM (rv1 a)).run P w = .ok (.agg ⟨vs⟩ :: us) w := by
  have e : a.tmps.getD x undef = .pointer (some ⟨b, o, none⟩) := ev_sound hk hx
  simp [List.mapM_cons, rv1, e, asAddr, run_loadVar_agg hT ht (Nat.eq_of_beq_eq_true hl) hc, rvs_sound (P := P) hk (w := w) h]
theorem rvs_tmp_cell {P : Program} {T : Tab} (hT : TabOk P T) {n : Nat} {fr : Fr} {a : Act} (hk : Kn n fr a) {w : World} {y x t size b o : Nat} {v : Value} {vs : List Value} (hy : ev n fr (.tmp y) = some v) (hx : ev n fr (.tmp x) = some (.pointer (some ⟨b, o, none⟩)))
    (ht : look T.kinds t = some (true, size)) (hl : Nat.beq vs.length size = true) (hc : Rd w b o vs) :
    ([ResultVar.tmp y, ResultVar.cell x t].mapM (rv1 a)).run P w = .ok [v, .agg ⟨vs⟩] w := by
  have e : a.tmps.getD x undef = .pointer (some ⟨b, o, none⟩) := ev_sound hk hx
  have e' : a.tmps.getD y undef = v := ev_sound hk hy
  simp [List.mapM_cons, rv1, e, e', asAddr, run_loadVar_agg hT ht (Nat.eq_of_beq_eq_true hl) hc]
theorem results_run {P : Program} {fn : Func} {a : Act} {w : World} {vs : List Value} (h : (fn.results.toList.mapM (rv1 a)).run P w = .ok vs w) : (results fn a.tmps).run P w = .ok (oneOr vs) w := by
  have e : results fn a.tmps = (fn.results.mapM (rv1 a) >>= fun vs => pure (if h : vs.size = 1 then vs[0] else .tuple vs)) := rfl
  rw [e, Sem.run_bind, Array.mapM_eq_mapM_toList, Sem.run_map, h]
  simp only [Result.andThen_ok, Sem.run_pure]
  congr 1
  match vs with
  | [] => rfl
  | [v] => rfl
  | v :: u :: r => simp [oneOr]
section
variable {P : Program} {T : Tab} {fn : Func} {n : Nat} {fr : Fr} {w : World} {R : Value → World → Prop}
theorem qw_ret {vs : List Value} (h : rvs n fr fn.results.toList = some vs) (hR : R (oneOr vs) w) : QW (bodyPost P fn fun e w' => ∃ v, e = .returned v ∧ R v w') .ret n fr w := fun _ hk =>
  ⟨hk.2.1, _, results_run (rvs_sound hk h), _, rfl, hR⟩
theorem qw_end {vs : List Value} (h : rvs n fr fn.results.toList = some vs) (hR : R (oneOr vs) w) : QW (bodyPost P fn fun e w' => ∃ v, e = .returned v ∧ R v w') .normal n fr w := fun _ hk =>
  ⟨hk.2.1, _, results_run (rvs_sound hk h), _, rfl, hR⟩
theorem qw_ret_cell (hT : TabOk P T) {x t size b o : Nat} {r : List ResultVar} {vs us : List Value} (hf : fn.results.toList = .cell x t :: r) (hx : ev n fr (.tmp x) = some (.pointer (some ⟨b, o, none⟩)))
    (ht : look T.kinds t = some (true, size)) (hl : Nat.beq vs.length size = true) (hc : Rd w b o vs) (h : rvs n fr r = some us) (hR : R (oneOr (.agg ⟨vs⟩ :: us)) w) :
    QW (bodyPost P fn fun e w' => ∃ v, e = .returned v ∧ R v w') .ret n fr w := fun _ hk =>
  ⟨hk.2.1, _, results_run (by rw [hf]; exact rvs_cell hT hk hx ht hl hc h), _, rfl, hR⟩
theorem qw_ret_tmp_cell (hT : TabOk P T) {y x t size b o : Nat} {v : Value} {vs : List Value} (hf : fn.results.toList = [.tmp y, .cell x t]) (hy : ev n fr (.tmp y) = some v) (hx : ev n fr (.tmp x) = some (.pointer (some ⟨b, o, none⟩)))
    (ht : look T.kinds t = some (true, size)) (hl : Nat.beq vs.length size = true) (hc : Rd w b o vs) (hR : R (oneOr [v, .agg ⟨vs⟩]) w) :
    QW (bodyPost P fn fun e w' => ∃ v, e = .returned v ∧ R v w') .ret n fr w := fun _ hk =>
  ⟨hk.2.1, _, results_run (by rw [hf]; exact rvs_tmp_cell hT hk hy hx ht hl hc), _, rfl, hR⟩
end
attribute [irreducible] CW LW QW Ret Kn
end Go.SK
namespace Go.SK
open Go
structure Ext (F : Nat → Prop) (w w' : World) : Prop where
  os : w'.os = w.os
  tape : w'.tape = w.tape
  output : w'.output = w.output
  size : w.heap.size ≤ w'.heap.size
  blk : ∀ k, k < w.heap.size → ¬ F k → w'.heap[k]? = w.heap[k]?
def No : Nat → Prop := fun _ => False
abbrev Ex (w w' : World) : Prop := Ext No w w'
theorem Ext.refl (F : Nat → Prop) (w : World) : Ext F w w := ⟨rfl, rfl, rfl, Nat.le_refl _, fun _ _ _ => rfl⟩
theorem Ext.trans' {F G H : Nat → Prop} {a b c : World} (h : Ext F a b) (k : Ext G b c) (hF : ∀ i, i < a.heap.size → F i → H i) (hG : ∀ i, i < a.heap.size → G i → H i) : Ext H a c :=
  ⟨k.os.trans h.os, k.tape.trans h.tape, k.output.trans h.output, Nat.le_trans h.size k.size, fun i hi hn =>
    (k.blk i (Nat.lt_of_lt_of_le hi h.size) (fun g => hn (hG i hi g))).trans (h.blk i hi (fun f => hn (hF i hi f)))⟩
theorem Ext.trans {F : Nat → Prop} {a b c : World} (h : Ext F a b) (k : Ext F b c) : Ext F a c := h.trans' k (fun _ _ x => x) (fun _ _ x => x)
theorem Ext.mono {F G : Nat → Prop} {a b : World} (h : Ext F a b) (hG : ∀ i, i < a.heap.size → F i → G i) : Ext G a b := ⟨h.os, h.tape, h.output, h.size, fun i hi hn => h.blk i hi (fun f => hn (hG i hi f))⟩
theorem Ext.of_ex {F : Nat → Prop} {a b : World} (h : Ex a b) : Ext F a b := h.mono fun _ _ f => f.elim
theorem Ext.alloc (w : World) (o : Obj) : Ex w (w.alloc o) := ⟨rfl, rfl, rfl, by simp, fun k hk _ => Go.RowKit.Below.heap_alloc _ _ _ hk⟩
theorem Ext.drew (w : World) : Ex w w.drew := ⟨rfl, rfl, rfl, Nat.le_refl _, fun _ _ _ => rfl⟩
theorem Ext.drawn (w : World) (k : Nat) : Ex w { w with drawn := k } := ⟨rfl, rfl, rfl, Nat.le_refl _, fun _ _ _ => rfl⟩
theorem Ext.setCell (w : World) (a : Addr) (v : Value) : Ext (· = a.block) w (w.setCell a v) := ⟨rfl, rfl, rfl, by simp, fun _ _ hn => Go.RowKit.Below.heap_setCell _ _ _ _ hn⟩
theorem Ext.setCell' (w : World) (b o : Nat) (v : Value) : Ext (· = b) w (w.setCell ⟨b, o, none⟩ v) := Ext.setCell w ⟨b, o, none⟩ v
theorem Ext.grown {w w' : World} {row : Option Nat} (h : w.grownBy w' row) : Ext (fun k => some k = row) w w' := ⟨h.os, h.tape, h.output, h.size, fun k hk hn => h.block k hk hn⟩
theorem Ext.below {F : Nat → Prop} {B : Nat} {w w' : World} (h : Ext F w w') (hB : B ≤ w.heap.size) (hF : ∀ i, i < B → ¬ F i) : Go.RowKit.Below B w w' :=
  ⟨h.os, h.tape, h.output, h.size, fun k hk => h.blk k (by omega) (hF k hk)⟩
theorem Ext.up {F : Nat → Prop} {a b c : World} (h : Ext F a b) (k : Ex b c) : Ext F a c := h.trans k.of_ex
theorem Ext.up_new {F G : Nat → Prop} {a b c : World} (h : Ext F a b) (k : Ext G b c) (hG : ∀ i, G i → a.heap.size ≤ i) : Ext F a c :=
  h.trans' k (fun _ _ x => x) (fun i hi g => absurd (hG i g) (by omega))
theorem Ext.cell {F : Nat → Prop} {w w' : World} (h : Ext F w w') {b i : Nat} {v : Value} (hc : w.cell? ⟨b, i, none⟩ = some v) (hn : ¬ F b) : w'.cell? ⟨b, i, none⟩ = some v := by
  have hb := World.block_lt_of_cell? w _ hc
  rw [← hc]
  exact World.cell?_of_block (h.blk b hb hn)
theorem Ex.cell {w w' : World} (h : Ex w w') {b i : Nat} {v : Value} (hc : w.cell? ⟨b, i, none⟩ = some v) : w'.cell? ⟨b, i, none⟩ = some v := Ext.cell h hc fun f => f
theorem Blk.ext {F : Nat → Prop} {w w' : World} {b : Nat} {cs : List Value} {t : TypeId} (hb : Blk w b cs t) (h : Ext F w w') (hn : ¬ F b) : Blk w' b cs t := (h.blk b hb.lt hn).trans hb
theorem Blk.ex {w w' : World} {b : Nat} {cs : List Value} {t : TypeId} (hb : Blk w b cs t) (h : Ex w w') : Blk w' b cs t := hb.ext h fun f => f
theorem Rd.ext {F : Nat → Prop} {w w' : World} {b o : Nat} {vs : List Value} (hr : Rd w b o vs) (h : Ext F w w') (hn : ¬ F b) : Rd w' b o vs := fun j v hj => h.cell (hr j v hj) hn
theorem Rd.ex {w w' : World} {b o : Nat} {vs : List Value} (hr : Rd w b o vs) (h : Ex w w') : Rd w' b o vs := hr.ext h fun f => f
theorem Blk.alloc (w : World) (cs : List Value) (t : TypeId) : Blk (w.alloc (.cells ⟨cs⟩ t)) w.heap.size cs t := heap_alloc_new w _
theorem Blk.set {w : World} {b : Nat} {cs : List Value} {t : TypeId} (h : Blk w b cs t) (i : Nat) (v : Value) : Blk (w.setCell ⟨b, i, none⟩ v) b (cs.set i v) t := by
  unfold Blk at *
  simp only [World.setCell, Array.getElem?_modify, if_true, h, Option.map_some]
  simp
structure Sl (A : Nat → Prop) (w : World) (v : Value) (size : Nat) (rows : List (List Value)) : Prop where
  is : ∃ a cap, v = .slice a rows.length cap ∧ (a = none → cap = 0) ∧ (rows ≠ [] → ∃ b o, a = some ⟨b, o, none⟩ ∧ A b ∧ ∀ i row, rows[i]? = some row → row.length = size ∧ Rd w b (o + i * size) row)
  small : rows.length ≤ maxLen
theorem Sl.ext {A F : Nat → Prop} {w w' : World} {v : Value} {size : Nat} {rows : List (List Value)} (h : Sl A w v size rows) (hx : Ext F w w') (hn : ∀ b, A b → ¬ F b) : Sl A w' v size rows := by
  obtain ⟨a, cap, hv, hz, hr⟩ := h.is
  refine ⟨⟨a, cap, hv, hz, fun hne => ?_⟩, h.small⟩
  obtain ⟨b, o, ha, hA, hrd⟩ := hr hne
  exact ⟨b, o, ha, hA, fun i row hi => ⟨(hrd i row hi).1, (hrd i row hi).2.ext hx (hn b hA)⟩⟩
theorem Sl.ex {A : Nat → Prop} {w w' : World} {v : Value} {size : Nat} {rows : List (List Value)} (h : Sl A w v size rows) (hx : Ex w w') : Sl A w' v size rows := h.ext hx fun _ _ f => f
theorem Sl.weaken {A B : Nat → Prop} {w : World} {v : Value} {size : Nat} {rows : List (List Value)} (h : Sl A w v size rows) (hn : ∀ b, A b → B b) : Sl B w v size rows := by
  obtain ⟨a, cap, hv, hz, hr⟩ := h.is
  exact ⟨⟨a, cap, hv, hz, fun hne => let ⟨b, o, ha, hA, hrd⟩ := hr hne; ⟨b, o, ha, hn b hA, hrd⟩⟩, h.small⟩
theorem Sl.nil (A : Nat → Prop) (w : World) (size : Nat) : Sl A w (.slice none 0 0) size [] := ⟨⟨none, 0, rfl, fun _ => rfl, fun h => absurd rfl h⟩, Nat.zero_le _⟩
theorem Sl.at {A : Nat → Prop} {w : World} {v : Value} {size : Nat} {rows : List (List Value)} (h : Sl A w v size rows) {i : Nat} {row : List Value} (hi : rows[i]? = some row) :
    ∃ b o cap, v = .slice (some ⟨b, o, none⟩) rows.length cap ∧ A b ∧ i < rows.length ∧ row.length = size ∧ Rd w b (o + i * size) row := by
  obtain ⟨a, cap, hv, _, hr⟩ := h.is
  have hne : rows ≠ [] := by rintro rfl; simp at hi
  obtain ⟨b, o, rfl, hA, hrd⟩ := hr hne
  exact ⟨b, o, cap, hv, hA, (List.getElem?_eq_some_iff.1 hi).1, (hrd i row hi).1, (hrd i row hi).2⟩
theorem Sl.of_rd {A : Nat → Prop} {w : World} {b o cap size : Nat} {rows : List (List Value)} (hA : A b) (hs : ∀ r ∈ rows, r.length = size) (hr : Rd w b o rows.flatten) (hm : rows.length ≤ maxLen) :
    Sl A w (.slice (some ⟨b, o, none⟩) rows.length cap) size rows := by
  refine ⟨⟨_, cap, rfl, (fun h => by cases h), fun _ => ⟨b, o, rfl, hA, fun i row hi => ⟨hs row (List.mem_of_getElem? hi), ?_⟩⟩⟩, hm⟩
  intro j v hj
  have hlt : j < row.length := (List.getElem?_eq_some_iff.1 hj).1
  have key : ∀ (rows : List (List Value)) (i : Nat), (∀ r ∈ rows, r.length = size) → rows[i]? = some row → rows.flatten[i * size + j]? = some v := by
    intro rows
    induction rows with
    | nil => intro i _ hi; simp at hi
    | cons r rs ih =>
      intro i hs hi
      cases i with
      | zero =>
        simp only [List.getElem?_cons_zero, Option.some.injEq] at hi
        subst hi
        simp only [List.flatten_cons, Nat.zero_mul, Nat.zero_add]
        rw [List.getElem?_append_left hlt]; exact hj
      | succ i =>
        simp only [List.getElem?_cons_succ] at hi
        have h1 : r.length = size := hs r List.mem_cons_self
        simp only [List.flatten_cons]
        rw [List.getElem?_append_right (by rw [h1, Nat.succ_mul]; omega)]
        have e : (i + 1) * size + j - r.length = i * size + j := by rw [h1, Nat.succ_mul]; omega
        rw [e]
        exact ih i (fun r hr => hs r (List.mem_cons_of_mem _ hr)) hi
  have := hr (i * size + j) v (key rows i hs hi)
  rw [show o + i * size + j = o + (i * size + j) from by omega]; exact this
theorem Sl.rd {A : Nat → Prop} {w : World} {a : Option Addr} {cap size len : Nat} {rows : List (List Value)} (h : Sl A w (.slice a len cap) size rows) {b o : Nat} (ha : a = some ⟨b, o, none⟩) : Rd w b o rows.flatten := by
  intro j v hj
  obtain ⟨a', cap', hv, _, hr⟩ := h.is
  have hne : rows ≠ [] := by rintro rfl; simp at hj
  obtain ⟨b', o', ha', _, hrd⟩ := hr hne
  simp only [Value.slice.injEq] at hv
  rw [ha', ha] at hv
  simp only [Option.some.injEq, Addr.mk.injEq, and_true] at hv
  obtain ⟨⟨rfl, rfl⟩, _, _⟩ := hv
  have key : ∀ (rows : List (List Value)) (o j : Nat), (∀ i row, rows[i]? = some row → row.length = size ∧ Rd w b (o + i * size) row) → rows.flatten[j]? = some v → w.cell? ⟨b, o + j, none⟩ = some v := by
    intro rows
    induction rows with
    | nil => intro o j _ hj; simp at hj
    | cons r rs ih =>
      intro o j hrd hj
      obtain ⟨h1, h2⟩ := hrd 0 r (by simp)
      simp only [List.flatten_cons] at hj
      by_cases hlt : j < r.length
      · rw [List.getElem?_append_left hlt] at hj
        have := h2 j v hj
        simpa using this
      · rw [List.getElem?_append_right (by omega)] at hj
        have := ih (o + size) (j - r.length) (fun i row hi => by
          have := hrd (i + 1) row (by simpa using hi)
          rwa [show o + (i + 1) * size = o + size + i * size from by rw [Nat.succ_mul]; omega] at this) hj
        rwa [show o + size + (j - r.length) = o + j from by omega] at this
  exact key rows o j hrd hj
theorem own_sl {A : Nat → Prop} {w : World} {base : Nat} {e : TypeId} {size : Nat} {v : Value} {rows : List (List Value)} (h : w.ownsRow base e size v rows.length rows.flatten) (hs : ∀ r ∈ rows, r.length = size)
    (hA : ∀ b, v.ownBlock = some b → A b) : Sl A w v size rows := by
  rcases h.2 with ⟨rfl, h0⟩ | ⟨g, cap, cur, rfl, hb, hg, hnc, hcm, hcs, htake⟩
  · have : rows = [] := List.eq_nil_of_length_eq_zero h0
    subst this; exact Sl.nil _ _ _
  · refine Sl.of_rd (hA g rfl) hs ?_ (by omega)
    intro j u hj
    have := h.cells (g := g) rfl j u hj
    rwa [addr_add] at this
theorem own_ext {F : Nat → Prop} {w w' : World} {base : Nat} {e : TypeId} {size n : Nat} {v : Value} {xs : List Value} (h : w.ownsRow base e size v n xs) (hx : Ext F w w') (hn : ∀ b, v.ownBlock = some b → ¬ F b) : w'.ownsRow base e size v n xs := by
  refine ⟨h.1, ?_⟩
  rcases h.2 with hnil | ⟨g, cap, cur, rfl, hb, hgg, rest⟩
  · exact .inl hnil
  · refine .inr ⟨g, cap, cur, rfl, hb, ?_, rest⟩
    rw [hx.blk g (Array.getElem?_eq_some_iff.1 hgg).1 (hn g rfl)]
    exact hgg
theorem own_ex {w w' : World} {base : Nat} {e : TypeId} {size n : Nat} {v : Value} {xs : List Value} (h : w.ownsRow base e size v n xs) (hx : Ex w w') : w'.ownsRow base e size v n xs := own_ext h hx fun _ _ f => f
theorem own_lit {w : World} {b e size n : Nat} {cs : List Value} {base : Nat} (h : Blk w b cs e) (hb : base ≤ b) (hl : cs.length = n * size) (hm : n ≤ maxLen) : w.ownsRow base e size (.slice (some ⟨b, 0, none⟩) n n) n cs :=
  ⟨hl, .inr ⟨b, n, ⟨cs⟩, rfl, hb, h, Nat.le_refl _, hm, by simpa using hl, by rw [← hl]; exact List.take_length⟩⟩
section
variable {P : Program} {T : Tab} {n : Nat} {fr : Fr} {w : World} {Q : Exit → Act → World → Prop} {ops : Array Oper} {rest : List Oper}
theorem lw_box {d t : Nat} {x : Operand} {ty : TypeId} {ps : String} {af : Array Edge} {v : Value} (hx : ev n fr x = some v)
    (k : ∀ b w1, b = w.heap.size → Blk w1 b v.cells.toList t → Ex w w1 → w1.heap.size = w.heap.size + 1 → LW P ops Q rest n ((d, .pointer (some ⟨b, 0, none⟩)) :: fr) w1) :
    LW P ops Q ({ dst := some d, op := .box t x, type := ty, pos := ps, after := af, guard := none } :: rest) n fr w :=
  lw_run rfl rfl (w' := w.alloc (.cells ⟨v.cells.toList⟩ t)) (fun a hk => by simp [execOp, ev_sound hk hx, Instr.box, newVar, newRow])
    (k w.heap.size _ rfl (Blk.alloc _ _ _) (Ext.alloc _ _) (by simp))
theorem lw_alloc {d t : Nat} {ty : TypeId} {ps : String} {af : Array Edge} {z : Value} (hz : (P.info? t).bind (·.zero) = some z)
    (k : ∀ b w1, b = w.heap.size → Blk w1 b z.cells.toList t → Ex w w1 → w1.heap.size = w.heap.size + 1 → LW P ops Q rest n ((d, .pointer (some ⟨b, 0, none⟩)) :: fr) w1) :
    LW P ops Q ({ dst := some d, op := .alloc t, type := ty, pos := ps, after := af, guard := none } :: rest) n fr w := by
  obtain ⟨i, hi, hz'⟩ := Option.bind_eq_some_iff.1 hz
  refine lw_run rfl rfl (w' := w.alloc (.cells ⟨z.cells.toList⟩ t)) (fun a hk => ?_) (k w.heap.size _ rfl (Blk.alloc _ _ _) (Ext.alloc _ _) (by simp))
  simp [execOp, Instr.alloc, zeroValue, typeInfo, hi, hz', newVar, newRow]
theorem lw_store (hT : TabOk P T) {t size : Nat} {x y : Operand} {ty : TypeId} {ps : String} {af : Array Edge} {b o e : Nat} {v : Value} {cs : List Value} (hx : ev n fr x = some (.pointer (some ⟨b, o, none⟩))) (hy : ev n fr y = some v)
    (ht : look T.kinds t = some (false, 1)) (hv : v.oneCell' = true) (hb : Blk w b cs e) (ho : o < cs.length)
    (k : ∀ w1, Blk w1 b (cs.set o v) e → Ext (· = b) w w1 → w1.heap.size = w.heap.size → LW P ops Q rest n fr w1) :
    LW P ops Q ({ dst := none, op := .store t x y, type := ty, pos := ps, after := af, guard := none } :: rest) n fr w := by
  obtain ⟨i, d, hi, hs, hu, hd⟩ := hT.kind ht
  have hc1 : v.cells = #[v] := by cases v <;> simp_all [Value.oneCell', Value.cells]
  refine lw_run_skip rfl rfl (w' := w.setCell ⟨b, o, none⟩ v) (fun a hk => ?_) (k _ (hb.set o v) (Ext.setCell' _ _ _ _) (by simp))
  have hcell : w.cell? ⟨b, o, none⟩ = some cs[o] := by rw [hb.cell]; simp [ho]
  have hst : (store ⟨b, o, none⟩ v).run P w = .ok () (w.setCell ⟨b, o, none⟩ v) := by
    rw [run_store P w _ v _ hv, hcell, hb.frozen]; rfl
  simp [execOp, ev_sound hk hx, ev_sound hk hy, Instr.storeAt, Instr.sureAddr, storeVar, sizeOf, typeInfo, hi, hs, hc1, storeCells, addr_add, hst]
def setMany : List Value → Nat → List Value → List Value
  | cs, _, [] => cs
  | cs, o, v :: r => setMany (cs.set o v) (o + 1) r
theorem run_storeCells_many {b e : Nat} : ∀ (vs : List Value) (i o : Nat) (cs : List Value) (w : World), Blk w b cs e → o + i + vs.length ≤ cs.length → (∀ v ∈ vs, v.oneCell' = true) →
    ∃ w1, (storeCells ⟨b, o, none⟩ vs i).run P w = .ok () w1 ∧ Blk w1 b (setMany cs (o + i) vs) e ∧ Ext (· = b) w w1 ∧ w1.heap.size = w.heap.size
  | [], i, o, cs, w, hb, _, _ => ⟨w, by simp [storeCells], hb, Ext.refl _ _, rfl⟩
  | v :: r, i, o, cs, w, hb, hl, hv => by
    have hv1 := hv v List.mem_cons_self
    simp only [List.length_cons] at hl
    have hcell : w.cell? ⟨b, o + i, none⟩ = some (cs[o + i]'(by omega)) := by rw [hb.cell]; simp
    have hst : (store ⟨b, o + i, none⟩ v).run P w = .ok () (w.setCell ⟨b, o + i, none⟩ v) := by
      rw [run_store P w _ v _ hv1, hcell, hb.frozen]; rfl
    obtain ⟨w1, h1, h2, h3, h4⟩ := run_storeCells_many r (i + 1) o (cs.set (o + i) v) (w.setCell ⟨b, o + i, none⟩ v) (hb.set _ _) (by simp; omega) (fun u hu => hv u (List.mem_cons_of_mem _ hu))
    refine ⟨w1, ?_, h2, (Ext.setCell' _ _ _ _).trans h3, by simpa using h4⟩
    simp only [storeCells, Sem.run_bind, addr_add, hst, Result.andThen_ok]
    exact h1
theorem lw_store_agg (hT : TabOk P T) {t size : Nat} {x y : Operand} {ty : TypeId} {ps : String} {af : Array Edge} {b o e : Nat} {vs cs : List Value} (hx : ev n fr x = some (.pointer (some ⟨b, o, none⟩))) (hy : ev n fr y = some (.agg ⟨vs⟩))
    (ht : look T.kinds t = some (true, size)) (hl : Nat.beq vs.length size = true) (hv : ∀ v ∈ vs, v.oneCell' = true) (hb : Blk w b cs e) (ho : o + vs.length ≤ cs.length)
    (k : ∀ w1, Blk w1 b (setMany cs o vs) e → Ext (· = b) w w1 → w1.heap.size = w.heap.size → LW P ops Q rest n fr w1) :
    LW P ops Q ({ dst := none, op := .store t x y, type := ty, pos := ps, after := af, guard := none } :: rest) n fr w := by
  obtain ⟨i, d, hi, hs, hu, hd⟩ := hT.kind ht
  obtain ⟨w1, h1, h2, h3, h4⟩ := run_storeCells_many (P := P) vs 0 o cs w hb (by omega) hv
  refine lw_run_skip rfl rfl (w' := w1) (fun a hk => ?_) (k _ (by simpa using h2) h3 h4)
  have e1 : vs.length = i.size := by rw [hs]; exact Nat.eq_of_beq_eq_true hl
  simp [execOp, ev_sound hk hx, ev_sound hk hy, Instr.storeAt, Instr.sureAddr, storeVar, sizeOf, typeInfo, hi, Value.cells, e1, h1]
def cellsIf (v : Value) (size : Nat) : Option (List Value) := match v with
  | .agg ⟨l⟩ => match Nat.beq l.length size with
    | true => some l
    | false => none
  | .tuple _ => none
  | v => match Nat.beq 1 size with
    | true => some [v]
    | false => none
theorem cellsIf_eq {v : Value} {size : Nat} {l : List Value} (h : cellsIf v size = some l) : v.cells = ⟨l⟩ ∧ l.length = size := by
  cases v <;> simp only [cellsIf] at h <;> (try (split at h)) <;> (try (split at h)) <;> simp_all [Value.cells] <;> first | exact Nat.eq_of_beq_eq_true (by assumption) | (subst h; simp; assumption) | skip
def lapp : List Value → List Value → Option (List Value)
  | [], r => some r
  | a :: l, r => match lapp l r with
    | some l' => some (a :: l')
    | none => none
theorem lapp_eq : ∀ {l r s : List Value}, lapp l r = some s → s = l ++ r
  | [], r, s, h => by simpa [lapp] using h.symm
  | a :: l, r, s, h => by
    simp only [lapp] at h
    cases hl : lapp l r with
    | none => simp [hl] at h
    | some l' => simp only [hl, Option.some.injEq] at h; rw [← h, lapp_eq hl]; rfl
def partsOf (n : Nat) (fr : Fr) (size : Nat) : Nat → List (Nat × Operand) → Option (List Value)
  | _, [] => some []
  | i, (j, x) :: r => match Nat.beq i j, ev n fr x, partsOf n fr size (i + 1) r with
    | true, some v, some vs => match cellsIf v size with
      | some l => lapp l vs
      | none => none
    | _, _, _ => none
theorem fill_parts {n : Nat} {fr : Fr} {a : Act} (hk : Kn n fr a) {size : Nat} : ∀ (l : List (Nat × Operand)) (i : Nat) (vs : List Value) (pre post : List Value), partsOf n fr size i l = some vs → pre.length = i * size → post.length = l.length * size →
    Instr.fill (fun i => some (i * size, size)) ⟨pre ++ post⟩ (l.map fun x => (x.1, a.eval x.2)) = some ⟨pre ++ vs⟩ ∧ vs.length = l.length * size
  | [], i, vs, pre, post, h, h1, h2 => by
    simp only [partsOf, Option.some.injEq] at h
    subst h
    have : post = [] := List.eq_nil_of_length_eq_zero (by simpa using h2)
    subst this
    simp [Instr.fill]
  | (j, x) :: r, i, vs, pre, post, h, h1, h2 => by
    simp only [partsOf] at h
    -- one part, of the cells 'c'
    have step : ∀ (c : List Value) (us : List Value), i = j → (a.eval x).cells = ⟨c⟩ → c.length = size → partsOf n fr size (i + 1) r = some us → vs = c ++ us →
        Instr.fill (fun i => some (i * size, size)) ⟨pre ++ post⟩ (((j, x) :: r).map fun x => (x.1, a.eval x.2)) = some ⟨pre ++ vs⟩ ∧ vs.length = ((j, x) :: r).length * size := by
      intro c us hij hc hcl hr hvs
      subst hij; subst hvs
      simp only [List.length_cons, Nat.succ_mul] at h2
      obtain ⟨g1, g2⟩ := fill_parts hk r (i + 1) us (pre ++ c) (post.drop size) hr (by simp [h1, hcl, Nat.succ_mul]) (by simp [h2])
      have hsz : i * size + c.length ≤ (pre ++ post).length := by simp [h1]; omega
      have hfold : ∀ (c : List Value) (k : Nat) (cs : Array Value), (c.zipIdx k).foldl (fun cs (x : Value × Nat) => cs.setIfInBounds (i * size + x.2) x.1) cs = ⟨setMany cs.toList (i * size + k) c⟩ := by
        intro c
        induction c with
        | nil => intro k cs; simp [setMany]
        | cons v c ih =>
          intro k cs
          simp only [List.zipIdx_cons, List.foldl_cons]
          rw [ih]
          simp [setMany, Nat.add_assoc]
      have hset : ∀ (c pre post : List Value), c.length ≤ post.length → setMany (pre ++ post) pre.length c = pre ++ c ++ post.drop c.length := by
        intro c
        induction c with
        | nil => intro pre post _; simp [setMany]
        | cons v c ih =>
          intro pre post hl
          match post, hl with
          | p :: post, hl =>
            have := ih (pre ++ [v]) post (by simpa using hl)
            simp only [List.length_append, List.length_cons, List.length_nil, Nat.zero_add] at this
            simp only [setMany]
            rw [show (pre ++ p :: post).set pre.length v = pre ++ [v] ++ post from by simp]
            rw [this]; simp
      have e2 := hfold c 0 ⟨pre ++ post⟩
      rw [show setMany (⟨pre ++ post⟩ : Array Value).toList (i * size + 0) c = pre ++ c ++ post.drop size from by
        have := hset c pre post (by rw [hcl]; omega)
        rw [h1, hcl] at this; simpa using this] at e2
      simp only [List.map_cons, Instr.fill, hc]
      rw [if_neg (by simp [hcl, h1]; omega)]
      rw [← Array.foldl_toList, Array.toList_zipIdx, e2, g1]
      simp [g2, hcl, Nat.succ_mul, Nat.add_comm]
    split at h
    · rename_i v us hb hx hr
      split at h
      · rename_i l hl
        obtain ⟨e1, e2⟩ := cellsIf_eq hl
        exact step l us (Nat.eq_of_beq_eq_true hb) (by rw [ev_sound hk hx]; exact e1) e2 hr (lapp_eq h)
      · cases h
    · cases h
def SlT (P : Program) (t e size bytes : Nat) : Prop := P.underlying t = some (.slice e) ∧ ∃ i z, P.info? e = some i ∧ i.zero = some z ∧ i.size = size ∧ i.bytes = bytes ∧ z.cells.size = size
theorem slT_of {P : Program} {t e size bytes : Nat} (h1 : P.underlying t = some (.slice e)) (h2 : (P.info? e).map (fun i => (i.zero.map (·.cells.size), i.size, i.bytes)) = some (some size, size, bytes)) : SlT P t e size bytes := by
  obtain ⟨i, hi, h⟩ := Option.map_eq_some_iff.1 h2
  simp only [Prod.mk.injEq] at h
  obtain ⟨z, hz, hz2⟩ := Option.map_eq_some_iff.1 h.1
  exact ⟨h1, i, z, hi, hz, h.2.1, h.2.2, hz2⟩
theorem lw_buildSlice {d t e size bytes len : Nat} {parts : Array (Nat × Operand)} {ty : TypeId} {ps : String} {af : Array Edge} {vs : List Value} (hS : SlT P t e size bytes)
    (h : partsOf n fr size 0 parts.toList = some vs) (hl : Nat.beq parts.toList.length len = true) (hsm : Nat.ble (len * size) 16777216 = true)
    (k : ∀ b w1, b = w.heap.size → Blk w1 b vs e → Ex w w1 → w1.heap.size = w.heap.size + 1 → LW P ops Q rest n ((d, .slice (some ⟨b, 0, none⟩) len len) :: fr) w1) :
    LW P ops Q ({ dst := some d, op := .buildSlice t len parts, type := ty, pos := ps, after := af, guard := none } :: rest) n fr w := by
  obtain ⟨hu, i, z, hi, hz, hs, hb, hzs⟩ := hS
  refine lw_run rfl rfl (w' := w.alloc (.cells ⟨vs⟩ e)) (fun a hk => ?_) (k w.heap.size _ rfl (Blk.alloc _ _ _) (Ext.alloc _ _) (by simp))
  have hlen := Nat.eq_of_beq_eq_true hl
  have hsm' := Nat.le_of_ble_eq_true hsm
  have key : ∀ post : List Value, post.length = len * size → Instr.fill (fun i => some (i * size, size)) ⟨post⟩ (parts.toList.map fun x => (x.1, a.eval x.2)) = some ⟨vs⟩ := by
    intro post hp
    have := (fill_parts hk parts.toList 0 vs [] post h (by simp) (by rw [hp, hlen])).1
    simpa using this
  have hparts : (parts.map fun (i, x) => (i, a.eval x)).toList = parts.toList.map fun x => (x.1, a.eval x.2) := by simp
  simp only [execOp, Instr.buildSlice, Sem.run_bind, run_underlying hu, Result.andThen_ok, sizeOf, typeInfo, run_program, hi, Sem.run_pure, hs]
  rw [if_neg (by omega)]
  simp only [hparts]
  by_cases h0 : len * size = 0
  · rw [if_pos h0, Sem.run_bind, Sem.run_pure, Result.andThen_ok]
    rw [show ((Array.range (len * size)).map fun x => (#[] : Array Value)[x % (#[] : Array Value).size]!) = ⟨[]⟩ from by rw [h0]; simp]
    rw [key [] (by simp [h0])]
    simp [newRow]
  · rw [if_neg h0]
    simp only [zeroValue, typeInfo, Sem.run_bind, run_program, Result.andThen_ok, hi, Sem.run_pure, hz]
    have := key (((Array.range (len * size)).map fun x => z.cells[x % z.cells.size]!)).toList (by simp)
    rw [show (⟨(((Array.range (len * size)).map fun x => z.cells[x % z.cells.size]!)).toList⟩ : Array Value) = ((Array.range (len * size)).map fun x => z.cells[x % z.cells.size]!) from rfl] at this
    rw [this]
    simp [newRow]
theorem lw_append {d t e size bytes base : Nat} {x y : Operand} {ty : TypeId} {ps : String} {af : Array Edge} {v : Value} {m m' c b o : Nat} {xs news : List Value} (hS : SlT P t e size bytes) (hsz : 0 < size)
    (hx : ev n fr x = some v) (hown : w.ownsRow base e size v m xs) (hy : ev n fr y = some (.slice (some ⟨b, o, none⟩) m' c)) (hr : Rd w b o news) (hl : news.length = m' * size) (h1 : ∀ u ∈ news, u.oneCell' = true)
    (h63 : m + m' ≤ maxLen) (hbytes : (m + m') * bytes ≤ 140737488355328) (hbase : base ≤ w.heap.size)
    (k : ∀ v' w1, w1.ownsRow base e size v' (m + m') (xs ++ news) → Ext (fun k => some k = v.ownBlock) w w1 → (v' = .slice none 0 0 ↔ v = .slice none 0 0 ∧ m' = 0) → (v'.ownBlock = v.ownBlock ∨ v'.ownBlock = some w.heap.size) → LW P ops Q rest n ((d, v') :: fr) w1) :
    LW P ops Q ({ dst := some d, op := .call ⟨.builtin .append, #[x, y], #[t, t]⟩, type := ty, pos := ps, after := af, guard := none } :: rest) n fr w := by
  obtain ⟨hu, i, z, hi, hz, hs, hb, hzs⟩ := hS
  obtain ⟨v', w', g1, g2, g3, g4, g5⟩ := run_append_own_at (P := P) w base t ty e i z size bytes hu hi hz hs hb hzs hsz v m xs hown ⟨b, o, none⟩ m' c news hl (fun j u hj => by rw [addr_add]; exact hr j u hj) h1 h63 hbytes hbase
  refine lw_run rfl rfl (w' := w') (fun a hk => ?_) (k v' w' g2 (Ext.grown g3) g4 g5)
  simp [execOp, resolve, invoke, builtin, ev_sound hk hx, ev_sound hk hy, g1]
theorem lw_append_at {d t e size bytes base : Nat} {x y : Operand} {ty : TypeId} {ps : String} {af : Array Edge} {v : Value} {m m' c : Nat} {ad : Addr} {xs news : List Value} (hS : SlT P t e size bytes) (hsz : 0 < size)
    (hx : ev n fr x = some v) (hown : w.ownsRow base e size v m xs) (hy : ev n fr y = some (.slice (some ad) m' c)) (hr : ∀ j u, news[j]? = some u → w.cell? (ad.add j) = some u) (hl : news.length = m' * size) (h1 : ∀ u ∈ news, u.oneCell' = true)
    (h63 : m + m' ≤ maxLen) (hbytes : (m + m') * bytes ≤ 140737488355328) (hbase : base ≤ w.heap.size)
    (k : ∀ v' w1, w1.ownsRow base e size v' (m + m') (xs ++ news) → Ext (fun k => some k = v.ownBlock) w w1 → (v' = .slice none 0 0 ↔ v = .slice none 0 0 ∧ m' = 0) → (v'.ownBlock = v.ownBlock ∨ v'.ownBlock = some w.heap.size) → LW P ops Q rest n ((d, v') :: fr) w1) :
    LW P ops Q ({ dst := some d, op := .call ⟨.builtin .append, #[x, y], #[t, t]⟩, type := ty, pos := ps, after := af, guard := none } :: rest) n fr w := by
  obtain ⟨hu, i, z, hi, hz, hs, hb, hzs⟩ := hS
  obtain ⟨v', w', g1, g2, g3, g4, g5⟩ := run_append_own_at (P := P) w base t ty e i z size bytes hu hi hz hs hb hzs hsz v m xs hown ad m' c news hl hr h1 h63 hbytes hbase
  refine lw_run rfl rfl (w' := w') (fun a hk => ?_) (k v' w' g2 (Ext.grown g3) g4 g5)
  simp [execOp, resolve, invoke, builtin, ev_sound hk hx, ev_sound hk hy, g1]
theorem lw_append_nil {d t e size bytes base : Nat} {x y : Operand} {ty : TypeId} {ps : String} {af : Array Edge} {v : Value} {m : Nat} {xs : List Value} (hS : SlT P t e size bytes)
    (hx : ev n fr x = some v) (hown : w.ownsRow base e size v m xs) (hy : ev n fr y = some (.slice none 0 0)) (k : LW P ops Q rest n ((d, v) :: fr) w) :
    LW P ops Q ({ dst := some d, op := .call ⟨.builtin .append, #[x, y], #[t, t]⟩, type := ty, pos := ps, after := af, guard := none } :: rest) n fr w := by
  obtain ⟨hu, i, z, hi, hz, hs, hb, hzs⟩ := hS
  have g1 := run_append_owned_none (P := P) w base t ty e i size hu hi v m xs hown
  refine lw_run rfl rfl (w' := w) (fun a hk => ?_) k
  simp [execOp, resolve, invoke, builtin, ev_sound hk hx, ev_sound hk hy, g1]
theorem lw_append_sl {d t e size bytes base : Nat} {x y : Operand} {ty : TypeId} {ps : String} {af : Array Edge} {v v2 : Value} {m : Nat} {xs : List Value} {A : Nat → Prop} {rows : List (List Value)} (hS : SlT P t e size bytes) (hsz : 0 < size)
    (hx : ev n fr x = some v) (hown : w.ownsRow base e size v m xs) (hy : ev n fr y = some v2) (hr : Sl A w v2 size rows) (h1 : ∀ r ∈ rows, ∀ u ∈ r, u.oneCell' = true)
    (h63 : m + rows.length ≤ maxLen) (hbytes : (m + rows.length) * bytes ≤ 140737488355328) (hbase : base ≤ w.heap.size)
    (k : ∀ v' w1, w1.ownsRow base e size v' (m + rows.length) (xs ++ rows.flatten) → Ext (fun k => some k = v.ownBlock) w w1 → (v' = .slice none 0 0 → v = .slice none 0 0) → (v'.ownBlock = v.ownBlock ∨ v'.ownBlock = some w.heap.size) → LW P ops Q rest n ((d, v') :: fr) w1) :
    LW P ops Q ({ dst := some d, op := .call ⟨.builtin .append, #[x, y], #[t, t]⟩, type := ty, pos := ps, after := af, guard := none } :: rest) n fr w := by
  obtain ⟨a, cap, hv, hz, hrd⟩ := hr.is
  have hlen : rows.flatten.length = rows.length * size := by
    have key : ∀ (l : List (List Value)), (∀ (i : Nat) (row : List Value), l[i]? = some row → row.length = size) → l.flatten.length = l.length * size := by
      intro l
      induction l with
      | nil => intro _; simp
      | cons r l ih =>
        intro h
        have h0 := h 0 r (by simp)
        have := ih fun i row hi => h (i + 1) row (by simpa using hi)
        simp only [List.flatten_cons, List.length_append, this, h0, List.length_cons, Nat.succ_mul]; omega
    refine key rows fun i row hi => ?_
    have hne : rows ≠ [] := by rintro rfl; simp at hi
    obtain ⟨b, o, _, _, h⟩ := hrd hne
    exact (h i row hi).1
  cases a with
  | none =>
    have h0 : rows = [] := by
      by_cases h : rows = []
      · exact h
      · obtain ⟨b, o, ha, _⟩ := hrd h; cases ha
    subst h0
    have hc := hz rfl
    subst hc
    have hv' : v2 = .slice none 0 0 := by simpa using hv
    subst hv'
    refine lw_append_nil hS hx hown hy (k v w (by simpa using hown) (Ext.refl _ _) (fun h => h) (.inl rfl))
  | some ad =>
    rw [hv] at hy
    refine lw_append_at hS hsz hx hown hy (news := rows.flatten) (fun j u hj => ?_) hlen (fun u hu => ?_) h63 hbytes hbase (fun v' w1 g1 g2 g3 g4 => k v' w1 g1 g2 (fun h => (g3.1 h).1) g4)
    · have hne : rows ≠ [] := by rintro rfl; simp at hj
      obtain ⟨b, o, ha, _⟩ := hrd hne
      simp only [Option.some.injEq] at ha
      subst ha
      rw [addr_add]
      rw [hv] at hr
      exact hr.rd rfl j u hj
    · obtain ⟨r, hr, hu⟩ := List.mem_flatten.1 hu
      exact h1 r hr u hu
def MpT (P : Program) (t e : Nat) (z : Value) : Prop := ∃ kt, P.underlying t = some (.map kt e) ∧ P.underlying kt = some .string ∧ (P.info? e).bind (·.zero) = some z
structure Mp (w : World) (b : Nat) (es : List (ByteArray × Value)) : Prop where
  is : ∃ ents clock, w.heap[b]? = some (.map ents clock) ∧ ents.toList.map (fun e => (e.key, e.val)) = es.map (fun e => (Value.string e.1, e.2)) ∧ ents.toList.map (·.born) = List.range es.length ∧ clock = es.length
theorem Mp.ext {F : Nat → Prop} {w w' : World} {b : Nat} {es : List (ByteArray × Value)} (h : Mp w b es) (hx : Ext F w w') (hn : ¬ F b) : Mp w' b es := by
  obtain ⟨ents, clock, h1, h2⟩ := h.is
  exact ⟨ents, clock, (hx.blk b (Array.getElem?_eq_some_iff.1 h1).1 hn).trans h1, h2⟩
theorem Mp.ex {w w' : World} {b : Nat} {es : List (ByteArray × Value)} (h : Mp w b es) (hx : Ex w w') : Mp w' b es := h.ext hx fun f => f
theorem Mp.lt {w : World} {b : Nat} {es : List (ByteArray × Value)} (h : Mp w b es) : b < w.heap.size := by obtain ⟨_, _, h1, _⟩ := h.is; exact (Array.getElem?_eq_some_iff.1 h1).1
def mget (es : List (ByteArray × Value)) (k : ByteArray) : Option Value := (es.find? fun e => decide (k = e.1)).map (·.2)
theorem findNow_mget {k : ByteArray} : ∀ (ents : List MapEntry) (es : List (ByteArray × Value)) (i : Nat), ents.map (fun e => (e.key, e.val)) = es.map (fun e => (Value.string e.1, e.2)) →
    ∃ r, Instr.findNow .string (.string k) ents i = some r ∧ r.map (·.2) = mget es k
  | [], [], i, _ => ⟨none, rfl, rfl⟩
  | [], _ :: _, _, h => by simp at h
  | _ :: _, [], _, h => by simp at h
  | e :: ents, x :: es, i, h => by
    simp only [List.map_cons, List.cons.injEq, Prod.mk.injEq] at h
    obtain ⟨⟨h1, h2⟩, h3⟩ := h
    have hb : (k == x.1) = decide (k = x.1) := by
      rw [Bool.eq_iff_iff, MapKept.bytes_beq]; simp
    by_cases hk : k = x.1
    · refine ⟨some (i, e.val), ?_, by simp [mget, hk, h2]⟩
      simp only [Instr.findNow, h1, Instr.sameNow, hb]
      rw [decide_eq_true hk]
    · obtain ⟨r, g1, g2⟩ := findNow_mget (k := k) ents es (i + 1) h3
      refine ⟨r, ?_, by rw [g2]; simp [mget, hk]⟩
      simp only [Instr.findNow, h1, Instr.sameNow, hb]
      rw [decide_eq_false hk]
      exact g1
theorem run_find {kt b : Nat} {k : ByteArray} {ents : Array MapEntry} {es : List (ByteArray × Value)} (hk : P.underlying kt = some .string) (h : ents.toList.map (fun e => (e.key, e.val)) = es.map (fun e => (Value.string e.1, e.2))) :
    ∃ r, (Instr.findKey kt (.string k) ents.toList).run P w = .ok r w ∧ r.map (·.2) = mget es k := by
  obtain ⟨r, g1, g2⟩ := findNow_mget (k := k) ents.toList es 0 h
  exact ⟨r, MapKept.run_findKey hk g1, g2⟩
theorem lw_makeMap {d t : Nat} {ty : TypeId} {ps : String} {af : Array Edge}
    (k : ∀ b w1, b = w.heap.size → Mp w1 b [] → Ex w w1 → w1.heap.size = w.heap.size + 1 → LW P ops Q rest n ((d, .map (some b)) :: fr) w1) :
    LW P ops Q ({ dst := some d, op := .makeMap t none, type := ty, pos := ps, after := af, guard := none } :: rest) n fr w :=
  lw_run rfl rfl (w' := w.alloc (.map #[] 0)) (fun a hk => by simp [execOp, Instr.makeMap])
    (k w.heap.size _ rfl ⟨#[], 0, heap_alloc_new w _, rfl, rfl, rfl⟩ (Ext.alloc _ _) (by simp))
theorem run_lookup_mp {t e b : Nat} {z : Value} {es : List (ByteArray × Value)} {ks : ByteArray} {c : Bool} (hM : MpT P t e z) (hm : Mp w b es) :
    (Instr.lookup t (.map (some b)) (.string ks) c).run P w = .ok (if c then .tuple #[(mget es ks).getD z, .bool (mget es ks).isSome] else (mget es ks).getD z) w := by
  obtain ⟨kt, hu, hkt, hz⟩ := hM
  obtain ⟨i, hi, hz'⟩ := Option.bind_eq_some_iff.1 hz
  obtain ⟨ents, clock, h1, h2, h3, h4⟩ := hm.is
  obtain ⟨r, g1, g2⟩ := run_find (P := P) (w := w) (b := b) (k := ks) hkt h2
  have hck := fun em => MapKept.run_checkKey (P := P) (w := w) (k := .string ks) hkt trivial em 9999
  simp only [Instr.lookup, Sem.run_bind, run_underlying hu, Result.andThen_ok, MapKept.run_getObj_map h1, Sem.run_pure, hck, g1]
  rw [← g2]
  cases r with
  | none => simp [zeroValue, typeInfo, hi, hz']
  | some x => simp
theorem lw_lookup {d t e b : Nat} {z : Value} {es : List (ByteArray × Value)} {ks : ByteArray} {x y : Operand} {ty : TypeId} {ps : String} {af : Array Edge} (hM : MpT P t e z) (hx : ev n fr x = some (.map (some b))) (hy : ev n fr y = some (.string ks)) (hm : Mp w b es)
    (k : LW P ops Q rest n ((d, (mget es ks).getD z) :: fr) w) :
    LW P ops Q ({ dst := some d, op := .lookup t x y false, type := ty, pos := ps, after := af, guard := none } :: rest) n fr w :=
  lw_run rfl rfl (fun a hk => by simp [execOp, ev_sound hk hx, ev_sound hk hy, run_lookup_mp hM hm]) k
theorem lw_lookup_ok {d t e b : Nat} {z : Value} {es : List (ByteArray × Value)} {ks : ByteArray} {x y : Operand} {ty : TypeId} {ps : String} {af : Array Edge} (hM : MpT P t e z) (hx : ev n fr x = some (.map (some b))) (hy : ev n fr y = some (.string ks)) (hm : Mp w b es)
    (k : LW P ops Q rest n ((d, .tuple #[(mget es ks).getD z, .bool (mget es ks).isSome]) :: fr) w) :
    LW P ops Q ({ dst := some d, op := .lookup t x y true, type := ty, pos := ps, after := af, guard := none } :: rest) n fr w :=
  lw_run rfl rfl (fun a hk => by simp [execOp, ev_sound hk hx, ev_sound hk hy, run_lookup_mp hM hm]) k
theorem lw_maplen {d t e b : Nat} {z : Value} {es : List (ByteArray × Value)} {x : Operand} {ty : TypeId} {ps : String} {af : Array Edge} (hM : MpT P t e z) (hx : ev n fr x = some (.map (some b))) (hm : Mp w b es)
    (k : LW P ops Q rest n ((d, .int .i64 (es.length : Nat)) :: fr) w) :
    LW P ops Q ({ dst := some d, op := .call ⟨.builtin .len, #[x], #[t]⟩, type := ty, pos := ps, after := af, guard := none } :: rest) n fr w := by
  obtain ⟨kt, hu, _, _⟩ := hM
  obtain ⟨ents, clock, h1, h2, h3, h4⟩ := hm.is
  have hl : ents.size = es.length := by have := congrArg List.length h2; simpa using this
  exact lw_run rfl rfl (fun a hk => by simp [execOp, resolve, invoke, builtin, Builtin.len_, ev_sound hk hx, run_underlying hu, MapKept.run_getObj_map h1, goInt, hl]) k
theorem run_mapUpdate_new {t e b : Nat} {z v : Value} {es : List (ByteArray × Value)} {ks : ByteArray} (hM : MpT P t e z) (hm : Mp w b es) (hnew : mget es ks = none) :
    ∃ w1, (Instr.mapUpdate t (.map (some b)) (.string ks) v).run P w = .ok () w1 ∧ Mp w1 b (es ++ [(ks, v)]) ∧ Ext (· = b) w w1 ∧ w1.heap.size = w.heap.size := by
  obtain ⟨kt, hu, hkt, hz⟩ := hM
  obtain ⟨ents, clock, h1, h2, h3, h4⟩ := hm.is
  obtain ⟨r, g1, g2⟩ := run_find (P := P) (w := w) (b := b) (k := ks) hkt h2
  have hr : r = none := by rw [hnew] at g2; simpa using g2
  subst hr
  have hck := fun em => MapKept.run_checkKey (P := P) (w := w) (k := .string ks) hkt trivial em 9999
  have hlt := (Array.getElem?_eq_some_iff.1 h1).1
  refine ⟨{ w with heap := w.heap.setIfInBounds b (.map (ents.push { key := .string ks, val := v, born := clock }) (clock + 1)) }, ?_, ⟨_, _, (MapKept.heap_set h1).1, ?_, ?_, ?_⟩, ⟨rfl, rfl, rfl, by simp, fun k _ hn => (MapKept.heap_set h1).2 k hn⟩, by simp⟩
  · simp only [Instr.mapUpdate, Sem.run_bind, run_underlying hu, Result.andThen_ok, MapKept.run_getObj_map h1, hck, g1, MapKept.run_setObj_map _ h1]
  · simp [h2]
  · simp [h3, h4, List.range_succ]
  · simp [h4]
theorem lw_mapUpdate {t e b : Nat} {z v : Value} {es : List (ByteArray × Value)} {ks : ByteArray} {x y u : Operand} {ty : TypeId} {ps : String} {af : Array Edge} (hM : MpT P t e z) (hx : ev n fr x = some (.map (some b))) (hy : ev n fr y = some (.string ks)) (hv : ev n fr u = some v)
    (hm : Mp w b es) (hnew : mget es ks = none) (k : ∀ w1, Mp w1 b (es ++ [(ks, v)]) → Ext (· = b) w w1 → w1.heap.size = w.heap.size → LW P ops Q rest n fr w1) :
    LW P ops Q ({ dst := none, op := .mapUpdate t x y u, type := ty, pos := ps, after := af, guard := none } :: rest) n fr w := by
  obtain ⟨w1, g1, g2, g3, g4⟩ := run_mapUpdate_new (P := P) (v := v) hM hm hnew
  exact lw_run_skip rfl rfl (w' := w1) (fun a hk => by simp [execOp, ev_sound hk hx, ev_sound hk hy, ev_sound hk hv, g1]) (k w1 g2 g3 g4)
structure Itr (w : World) (b m : Nat) (len : Nat) (seen : List Nat) : Prop where
  is : ∃ c0, w.heap[b]? = some (.mapIter (some m) len ⟨seen⟩ c0) ∧ len ≤ c0
theorem Itr.ext {F : Nat → Prop} {w w' : World} {b m len : Nat} {seen : List Nat} (h : Itr w b m len seen) (hx : Ext F w w') (hn : ¬ F b) : Itr w' b m len seen := by
  obtain ⟨c0, h1, h2⟩ := h.is
  exact ⟨c0, (hx.blk b (Array.getElem?_eq_some_iff.1 h1).1 hn).trans h1, h2⟩
theorem Itr.ex {w w' : World} {b m len : Nat} {seen : List Nat} (h : Itr w b m len seen) (hx : Ex w w') : Itr w' b m len seen := h.ext hx fun f => f
theorem lw_range {d t e m : Nat} {z : Value} {es : List (ByteArray × Value)} {x : Operand} {ty : TypeId} {ps : String} {af : Array Edge} (hM : MpT P t e z) (hx : ev n fr x = some (.map (some m))) (hm : Mp w m es)
    (k : ∀ b w1, b = w.heap.size → Itr w1 b m es.length [] → Ex w w1 → w1.heap.size = w.heap.size + 1 → LW P ops Q rest n ((d, .pointer (some ⟨b, 0, none⟩)) :: fr) w1) :
    LW P ops Q ({ dst := some d, op := .range t x, type := ty, pos := ps, after := af, guard := none } :: rest) n fr w := by
  obtain ⟨kt, hu, _, _⟩ := hM
  obtain ⟨ents, clock, h1, h2, h3, h4⟩ := hm.is
  have := run_range_map (P := P) w t kt e m ents clock hu h1
  refine lw_run rfl rfl (w' := w.alloc (.mapIter (some m) clock #[] clock)) (fun a hk => by simp [execOp, ev_sound hk hx, this]) (k w.heap.size _ rfl ⟨clock, ?_, by omega⟩ (Ext.alloc _ _) (by simp))
  subst h4; exact heap_alloc_new w _
theorem run_next_mp {b m : Nat} {es : List (ByteArray × Value)} {seen : List Nat} (hm : Mp w m es) (hi : Itr w b m es.length seen) (hsn : ∀ j ∈ seen, j < es.length) :
    ((∀ j, j < es.length → j ∈ seen) ∧ (Instr.next (.pointer (some ⟨b, 0, none⟩)) false 0).run P w = .ok (.tuple #[.bool false]) w) ∨
    ∃ j x w1, es[j]? = some x ∧ j ∉ seen ∧ (Instr.next (.pointer (some ⟨b, 0, none⟩)) false 0).run P w = .ok (.tuple #[.bool true, .string x.1, x.2]) w1 ∧ Itr w1 b m es.length (seen ++ [j]) ∧ Ext (· = b) w w1 ∧ w1.heap.size = w.heap.size ∧
      (Instr.entry (.pointer (some ⟨b, 0, none⟩))).run P w1 = .ok (.tuple #[.string x.1, x.2]) w1 := by
  obtain ⟨ents, clock, h1, h2, h3, h4⟩ := hm.is
  obtain ⟨c0, hb, hc0⟩ := hi.is
  have hne : m ≠ b := by rintro rfl; rw [h1] at hb; cases hb
  have hborn : ∀ x ∈ ents.toList, x.born < es.length := fun x hx => by
    have : x.born ∈ ents.toList.map (·.born) := List.mem_map.2 ⟨x, hx, rfl⟩
    rw [h3] at this; simpa using this
  have hlen : ents.toList.length = es.length := by have := congrArg List.length h3; simpa using this
  have hat : ∀ x ∈ ents.toList, ents.toList[x.born]? = some x := fun x hx => by
    obtain ⟨j, hj, hjx⟩ := List.mem_iff_getElem.1 hx
    have : (ents.toList.map (·.born))[j]? = some x.born := by simp [List.getElem?_map, List.getElem?_eq_getElem hj, hjx]
    rw [h3, List.getElem?_range (by omega)] at this
    simp only [Option.some.injEq] at this
    rw [← this, List.getElem?_eq_getElem hj, hjx]
  simp only [Instr.next, getObj, Sem.run_bind, Sem.run, hb, h1, Result.andThen, next_test_false (⟨seen⟩ : Array Nat) ents es.length c0 hborn hc0, Bool.false_eq_true, if_false]
  have hmem : ∀ x ∈ (Array.filter (fun e => !(⟨seen⟩ : Array Nat).contains e.born) ents).toList, x ∈ ents.toList ∧ x.born ∉ seen := fun x hx => by
    simp only [Array.toList_filter, List.mem_filter] at hx
    exact ⟨hx.1, by simpa using hx.2⟩
  have hall : Array.filter (fun e => !(⟨seen⟩ : Array Nat).contains e.born) ents = #[] → ∀ j, j < es.length → j ∈ seen := fun h0 j hj => by
    rw [Array.filter_eq_empty_iff] at h0
    have hx : ents.toList[j]? = some (ents.toList[j]'(by omega)) := List.getElem?_eq_getElem _
    have hm1 : ents.toList[j]'(by omega) ∈ ents := by simp
    have := h0 _ hm1
    have e : (ents.toList[j]'(by omega)).born = j := by
      have : (ents.toList.map (·.born))[j]? = some (ents.toList[j]'(by omega)).born := by simp [List.getElem?_map, hx]
      rw [h3, List.getElem?_range hj] at this
      simpa using this.symm
    rw [e] at this
    simpa using this
  generalize Array.filter (fun e => !(⟨seen⟩ : Array Nat).contains e.born) ents = L at hmem hall ⊢
  have e1 : L.filter (fun x => decide (x.born < es.length)) = L := Array.filter_eq_self.2 (fun x hx => by simpa using hborn x (hmem x (by simpa using hx)).1)
  have e2 : L.filter (fun x => decide (x.born ≥ es.length)) = #[] := by
    rw [Array.filter_eq_empty_iff]
    intro x hx
    have := hborn x (hmem x (by simpa using hx)).1
    simp; omega
  simp only [e1, e2, Array.append_empty]
  by_cases h0 : L.size = 0
  · left
    have : L = #[] := Array.eq_empty_of_size_eq_zero h0
    refine ⟨hall this, ?_⟩
    subst this
    simp [choose, Sem.run, Question.forced]
  · right
    have hne' : L.isEmpty = false := by simp [Array.isEmpty, h0]
    simp only [hne', Bool.false_eq_true, if_false, Array.empty_append, Array.size_map]
    have hch : ∃ (j : Nat) (w1 : World), j < L.size ∧ w1.heap = w.heap ∧ Ex w w1 ∧ (choose (Question.mapNext L.size)).run P w = .ok j w1 := by
      by_cases hf : L.size ≤ 1
      · exact ⟨0, w, by omega, rfl, Ext.refl _ _, by simp [choose, Sem.run, Question.forced, hf]⟩
      · exact ⟨_, w.drew, Nat.mod_lt _ (by omega), rfl, Ext.drew w, by
          simp only [choose, Sem.run, Question.forced, decide_eq_true_eq, hf, if_false, Question.cut]
          rfl⟩
    obtain ⟨j, w1, hj, hheap, hex, hrun⟩ := hch
    obtain ⟨hm1, hns⟩ := hmem L[j] (by simp)
    have hat1 := hat L[j] hm1
    have hlt1 := hborn L[j] hm1
    have hx : (es.map (fun e => (Value.string e.1, e.2)))[L[j].born]? = some (L[j].key, L[j].val) := by
      rw [← h2]; simp [List.getElem?_map, hat1]
    simp only [List.getElem?_map] at hx
    obtain ⟨x, hx1, hx2⟩ := Option.map_eq_some_iff.1 hx
    simp only [Prod.mk.injEq] at hx2
    have hb1 : w1.heap[b]? = some (.mapIter (some m) es.length ⟨seen⟩ c0) := by rw [hheap]; exact hb
    have hset : ∀ o', (setObj b o').run P w1 = .ok () { w1 with heap := w1.heap.setIfInBounds b o' } := fun o' => by
      simp [setObj, Sem.run, hb1]
    have hnew := (MapKept.heap_set (o' := .mapIter (some m) es.length ((⟨seen⟩ : Array Nat).push L[j].born) clock) hb1)
    refine ⟨L[j].born, x, { w1 with heap := w1.heap.setIfInBounds b (.mapIter (some m) es.length ((⟨seen⟩ : Array Nat).push L[j].born) clock) }, hx1, hns, ?_, ⟨clock, ?_, by omega⟩, ?_, by simp [hheap], ?_⟩
    · simp only [hrun, Array.getElem?_map, Array.getElem?_eq_getElem hj, Option.map_some, Sem.run_bind, hset, Result.andThen, hx2.1, hx2.2]
      rfl
    · rw [hnew.1]; simp
    · exact (Ext.of_ex hex).trans ⟨rfl, rfl, rfl, by simp, fun k _ hn => hnew.2 k hn⟩
    · have hf : ents.find? (·.born == L[j].born) = some L[j] := by
        rw [← Array.find?_toList]
        exact find_born L[j] ents.toList (by rw [h3]; exact List.nodup_range) hm1
      have hm2 : (w1.heap.setIfInBounds b (.mapIter (some m) es.length ((⟨seen⟩ : Array Nat).push L[j].born) clock))[m]? = some (.map ents clock) := by rw [hnew.2 m hne, hheap, h1]
      simp only [Instr.entry, getObj, Sem.run_bind, Sem.run, hnew.1, hm2, Result.andThen, Array.back?_push, bne_self_eq_false, Bool.false_eq_true, if_false, hf, hx2.1, hx2.2]
      rfl
theorem lw_next {d b m : Nat} {es : List (ByteArray × Value)} {seen : List Nat} {x : Operand} {ty : TypeId} {ps : String} {af : Array Edge} (hx : ev n fr x = some (.pointer (some ⟨b, 0, none⟩))) (hm : Mp w m es) (hi : Itr w b m es.length seen) (hsn : ∀ j ∈ seen, j < es.length)
    (h0 : (∀ j, j < es.length → j ∈ seen) → LW P ops Q rest n ((d, .tuple #[.bool false]) :: fr) w)
    (h1 : ∀ j x w1, es[j]? = some x → j ∉ seen → Itr w1 b m es.length (seen ++ [j]) → Ext (· = b) w w1 → w1.heap.size = w.heap.size → (Instr.entry (.pointer (some ⟨b, 0, none⟩))).run P w1 = .ok (.tuple #[.string x.1, x.2]) w1 →
      LW P ops Q rest n ((d, .tuple #[.bool true, .string x.1, x.2]) :: fr) w1) :
    LW P ops Q ({ dst := some d, op := .next x false, type := ty, pos := ps, after := af, guard := none } :: rest) n fr w := by
  rcases run_next_mp (P := P) hm hi hsn with ⟨g0, g1⟩ | ⟨j, x', w1, g1, g2, g3, g4, g5, g6, g7⟩
  · exact lw_run rfl rfl (fun a hk => by show ((Instr.next (a.eval x) false 0 >>= fun v => pure (Next.value v)) : Sem Next).run P w = _; rw [ev_sound hk hx, Sem.run_bind, g1]; rfl) (h0 g0)
  · exact lw_run rfl rfl (fun a hk => by show ((Instr.next (a.eval x) false 0 >>= fun v => pure (Next.value v)) : Sem Next).run P w = _; rw [ev_sound hk hx, Sem.run_bind, g3]; rfl) (h1 j x' w1 g1 g2 g4 g5 g6 g7)
theorem lw_entry {d b : Nat} {v : Value} {x : Operand} {ty : TypeId} {ps : String} {af : Array Edge} (hx : ev n fr x = some (.pointer (some ⟨b, 0, none⟩))) (he : (Instr.entry (.pointer (some ⟨b, 0, none⟩))).run P w = .ok v w)
    (k : LW P ops Q rest n ((d, v) :: fr) w) : LW P ops Q ({ dst := some d, op := .entry x, type := ty, pos := ps, after := af, guard := none } :: rest) n fr w :=
  lw_run rfl rfl (fun a hk => by simp [execOp, ev_sound hk hx, he]) k
theorem equalIn_sl (d : Nat) {t e l c : Nat} {p : Option Addr} (hu : P.underlying t = some (.slice e)) : (Op.equalIn (d + 1) t (.slice p l c) (.slice none 0 0)).run P w = .ok p.isNone w := by
  cases p <;> simp [Op.equalIn, run_underlying hu]
theorem equalIn_ptr (d : Nat) {t e : Nat} {p : Option Addr} (hu : P.underlying t = some (.pointer e)) : (Op.equalIn (d + 1) t (.pointer p) (.pointer none)).run P w = .ok p.isNone w := by
  cases p <;> simp [Op.equalIn, run_underlying hu]
theorem lw_eq_slice_nil (hT : TabOk P T) {d t size l c : Nat} {p : Option Addr} {x : Operand} {t' : TypeId} {ty : TypeId} {ps : String} {af : Array Edge} (hx : ev n fr x = some (.slice p l c)) (ht : look T.sls t = some size)
    (k : LW P ops Q rest n ((d, .bool p.isNone) :: fr) w) :
    LW P ops Q ({ dst := some d, op := .binOp .eql t x (.const (.slice none 0 0)) t', type := ty, pos := ps, after := af, guard := none } :: rest) n fr w := by
  obtain ⟨e, i, hu, _⟩ := hT.sl ht
  refine lw_run rfl rfl (fun a hk => ?_) k
  have hq : (Op.equal t (.slice p l c) (.slice none 0 0)).run P w = .ok p.isNone w := equalIn_sl 9999 hu
  have e1 : a.eval (.const (.slice none 0 0)) = .slice none 0 0 := rfl
  simp only [execOp, ev_sound hk hx, e1]
  simp [eqGuard, binOp, hq]
theorem lw_eq_ptr_nil (hT : TabOk P T) {d t : Nat} {p : Option Addr} {x : Operand} {t' : TypeId} {ty : TypeId} {ps : String} {af : Array Edge} (hx : ev n fr x = some (.pointer p)) (ht : memN T.ptrs t = true)
    (k : LW P ops Q rest n ((d, .bool p.isNone) :: fr) w) :
    LW P ops Q ({ dst := some d, op := .binOp .eql t x (.const (.pointer none)) t', type := ty, pos := ps, after := af, guard := none } :: rest) n fr w := by
  obtain ⟨e, hu⟩ := hT.ptr ht
  refine lw_run rfl rfl (fun a hk => ?_) k
  have hq : (Op.equal t (.pointer p) (.pointer none)).run P w = .ok p.isNone w := equalIn_ptr 9999 hu
  have e1 : a.eval (.const (.pointer none)) = .pointer none := rfl
  simp only [execOp, ev_sound hk hx, e1]
  simp [eqGuard, binOp, hq]
theorem lw_eqs_none (hT : TabOk P T) {d t size l c : Nat} {x : Operand} {t' : TypeId} {ty : TypeId} {ps : String} {af : Array Edge} (hx : ev n fr x = some (.slice none l c)) (ht : look T.sls t = some size)
    (k : LW P ops Q rest n ((d, .bool true) :: fr) w) :
    LW P ops Q ({ dst := some d, op := .binOp .eql t x (.const (.slice none 0 0)) t', type := ty, pos := ps, after := af, guard := none } :: rest) n fr w := lw_eq_slice_nil hT hx ht k
theorem lw_eqs_some (hT : TabOk P T) {d t size l c : Nat} {p : Addr} {x : Operand} {t' : TypeId} {ty : TypeId} {ps : String} {af : Array Edge} (hx : ev n fr x = some (.slice (some p) l c)) (ht : look T.sls t = some size)
    (k : LW P ops Q rest n ((d, .bool false) :: fr) w) :
    LW P ops Q ({ dst := some d, op := .binOp .eql t x (.const (.slice none 0 0)) t', type := ty, pos := ps, after := af, guard := none } :: rest) n fr w := lw_eq_slice_nil hT hx ht k
theorem lw_eqp_none (hT : TabOk P T) {d t : Nat} {x : Operand} {t' : TypeId} {ty : TypeId} {ps : String} {af : Array Edge} (hx : ev n fr x = some (.pointer none)) (ht : memN T.ptrs t = true)
    (k : LW P ops Q rest n ((d, .bool true) :: fr) w) :
    LW P ops Q ({ dst := some d, op := .binOp .eql t x (.const (.pointer none)) t', type := ty, pos := ps, after := af, guard := none } :: rest) n fr w := lw_eq_ptr_nil hT hx ht k
theorem lw_eqp_some (hT : TabOk P T) {d t : Nat} {p : Addr} {x : Operand} {t' : TypeId} {ty : TypeId} {ps : String} {af : Array Edge} (hx : ev n fr x = some (.pointer (some p))) (ht : memN T.ptrs t = true)
    (k : LW P ops Q rest n ((d, .bool false) :: fr) w) :
    LW P ops Q ({ dst := some d, op := .binOp .eql t x (.const (.pointer none)) t', type := ty, pos := ps, after := af, guard := none } :: rest) n fr w := lw_eq_ptr_nil hT hx ht k
theorem lw_conv_int (hT : TabOk P T) {d s t : Nat} {q q' : IntKind} {i : Int} {x : Operand} {ty : TypeId} {ps : String} {af : Array Edge} (hx : ev n fr x = some (.int q i)) (hs : look T.ints s = some q) (ht : look T.ints t = some q') (hw : q'.wrap i = i)
    (k : LW P ops Q rest n ((d, .int q' i) :: fr) w) :
    LW P ops Q ({ dst := some d, op := .convert s t x, type := ty, pos := ps, after := af, guard := none } :: rest) n fr w := by
  refine lw_run rfl rfl (fun a hk => ?_) k
  simp [execOp, ev_sound hk hx, convert, run_underlying (hT.int hs), run_underlying (hT.int ht), Conv.intToInt, hw]
theorem u8_in {i : Int} (hl : 0 ≤ i) (hu : i ≤ 255) : IntKind.u8.wrap i = i := by
  simp only [IntKind.wrap, IntKind.bits, IntKind.signed]
  simp; omega
theorem lw_sub8 {d : Nat} {x y : Operand} {t t' : TypeId} {ty : TypeId} {ps : String} {af : Array Edge} {a b : Int} (hx : ev n fr x = some (.int .u8 a)) (hy : ev n fr y = some (.int .u8 b))
    (hl : 0 ≤ a - b) (hu : a - b ≤ 255) (k : LW P ops Q rest n ((d, .int .u8 (a - b)) :: fr) w) :
    LW P ops Q ({ dst := some d, op := .binOp .sub t x y t', type := ty, pos := ps, after := af, guard := none } :: rest) n fr w :=
  lw_run rfl rfl (fun a' hk => by simp [execOp, ev_sound hk hx, ev_sound hk hy, eqGuard, binOp, Op.intArith, u8_in hl hu]) k
theorem lw_conv64 (hT : TabOk P T) {d s t : Nat} {q : IntKind} {i : Int} {x : Operand} {ty : TypeId} {ps : String} {af : Array Edge} (hx : ev n fr x = some (.int q i)) (hs : look T.ints s = some q) (ht : look T.ints t = some .i64) (hl : -9223372036854775808 ≤ i) (hu : i ≤ 9223372036854775807)
    (k : LW P ops Q rest n ((d, .int .i64 i) :: fr) w) :
    LW P ops Q ({ dst := some d, op := .convert s t x, type := ty, pos := ps, after := af, guard := none } :: rest) n fr w :=
  lw_conv_int hT hx hs ht (IntWalk.i64_in _ ⟨hl, hu⟩) k
theorem lw_mul {d : Nat} {x y : Operand} {t t' : TypeId} {ty : TypeId} {ps : String} {af : Array Edge} {a b : Int} (hx : ev n fr x = some (.int .i64 a)) (hy : ev n fr y = some (.int .i64 b))
    (hl : -9223372036854775808 ≤ a * b) (hu : a * b ≤ 9223372036854775807) (k : LW P ops Q rest n ((d, .int .i64 (a * b)) :: fr) w) :
    LW P ops Q ({ dst := some d, op := .binOp .mul t x y t', type := ty, pos := ps, after := af, guard := none } :: rest) n fr w :=
  lw_run rfl rfl (fun a' hk => by simp [execOp, ev_sound hk hx, ev_sound hk hy, eqGuard, binOp, Op.intArith]; exact IntWalk.i64_in _ ⟨hl, hu⟩) k
theorem lw_rem {d : Nat} {x y : Operand} {t t' : TypeId} {ty : TypeId} {ps : String} {af : Array Edge} {a b : Int} (hx : ev n fr x = some (.int .i64 a)) (hy : ev n fr y = some (.int .i64 b)) (hb : b ≠ 0)
    (k : LW P ops Q rest n ((d, .int .i64 (a.tmod b)) :: fr) w) :
    LW P ops Q ({ dst := some d, op := .binOp .rem t x y t', type := ty, pos := ps, after := af, guard := none } :: rest) n fr w :=
  lw_run rfl rfl (fun a' hk => by simp [execOp, ev_sound hk hx, ev_sound hk hy, eqGuard, binOp, Op.intDiv, hb]) k
def optInt (n : Nat) (fr : Fr) (dflt : Nat) : Option Operand → Option Int
  | none => some (dflt : Int)
  | some x => match ev n fr x with
    | some (.int _ i) => some i
    | _ => none
theorem run_sliceBound_ok {k : IntKind} {i : Int} {y : Nat} {c : BoundsCode} (j : Nat) (hi : i = (j : Int)) (hy : j ≤ y) : (Instr.sliceBound (.int k i) y c).run P w = .ok j w := by
  subst hi
  simp [Instr.sliceBound, asIntOf, hy]
theorem run_bounds {isS : Bool} {len cap : Nat} {lo hi : Option Value} {a b : Nat} (hlo : (lo = none ∧ a = 0) ∨ ∃ k, lo = some (.int k (a : Int))) (hhi : (hi = none ∧ b = len) ∨ ∃ k, hi = some (.int k (b : Int))) (hab : a ≤ b) (hb : b ≤ cap) :
    (Instr.sliceBounds isS len cap lo hi none).run P w = .ok (a, b, cap) w := by
  have h1 := fun k c => run_sliceBound_ok (P := P) (w := w) (k := k) (c := c) (y := b) a rfl hab
  have h2 := fun k c => run_sliceBound_ok (P := P) (w := w) (k := k) (c := c) (y := cap) b rfl hb
  rcases hlo with ⟨rfl, rfl⟩ | ⟨k, rfl⟩ <;> rcases hhi with ⟨rfl, rfl⟩ | ⟨k', rfl⟩ <;>
    simp only [Instr.sliceBounds, Sem.run_bind, Sem.run_pure, Result.andThen_ok, h1, h2]
theorem optInt_of {n : Nat} {fr : Fr} {act : Act} (hk : Kn n fr act) {dflt : Nat} {x : Option Operand} {l : Int} (h : optInt n fr dflt x = some l) {a : Nat} (ha : l = (a : Int)) : (x.map act.eval = none ∧ a = dflt) ∨ ∃ k, x.map act.eval = some (.int k (a : Int)) := by
  subst ha
  cases x with
  | none => simp only [optInt, Option.some.injEq] at h; exact .inl ⟨rfl, by omega⟩
  | some z =>
    simp only [optInt] at h
    split at h
    · rename_i q i hz
      simp only [Option.some.injEq] at h
      subst h
      exact .inr ⟨q, by simp [ev_sound hk hz]⟩
    · cases h
theorem lw_slice_str (hT : TabOk P T) {d t : Nat} {x : Operand} {lo hi : Option Operand} {ty : TypeId} {ps : String} {af : Array Edge} {s : ByteArray} {l h : Int} (hx : ev n fr x = some (.string s)) (ht : memN T.strs t = true)
    (hlo : optInt n fr 0 lo = some l) (hhi : optInt n fr s.size hi = some h) (a b : Nat) (ha : l = (a : Int)) (hb : h = (b : Int)) (hab : a ≤ b) (hbs : b ≤ s.size) (k : LW P ops Q rest n ((d, .string (s.extract a b)) :: fr) w) :
    LW P ops Q ({ dst := some d, op := .slice t x lo hi none, type := ty, pos := ps, after := af, guard := none } :: rest) n fr w := by
  refine lw_run rfl rfl (fun act hk => ?_) k
  have hbd := run_bounds (P := P) (w := w) (isS := false) (len := s.size) (cap := s.size) (optInt_of hk hlo ha) (optInt_of hk hhi hb) hab hbs
  simp only [execOp, Instr.sliceAt, Sem.run_bind, run_underlying (hT.str ht), Result.andThen_ok, Instr.slice, ev_sound hk hx, Option.map_none, Option.isSome_none, Bool.false_eq_true, if_false, hbd, Sem.run_pure]
theorem lw_slice_sl (hT : TabOk P T) {d t size : Nat} {x : Operand} {lo hi : Option Operand} {ty : TypeId} {ps : String} {af : Array Edge} {p : Option Addr} {len cap : Nat} {l h : Int} (hx : ev n fr x = some (.slice p len cap)) (ht : look T.sls t = some size)
    (hlo : optInt n fr 0 lo = some l) (hhi : optInt n fr len hi = some h) (a b : Nat) (ha : l = (a : Int)) (hb : h = (b : Int)) (hab : a ≤ b) (hbs : b ≤ cap)
    (k : LW P ops Q rest n ((d, .slice (if cap = a then p else p.map (·.add (a * size))) (b - a) (cap - a)) :: fr) w) :
    LW P ops Q ({ dst := some d, op := .slice t x lo hi none, type := ty, pos := ps, after := af, guard := none } :: rest) n fr w := by
  obtain ⟨e, inf, hu, hin, hs⟩ := hT.sl ht
  refine lw_run rfl rfl (fun act hk => ?_) k
  have hbd := run_bounds (P := P) (w := w) (isS := true) (len := len) (cap := cap) (optInt_of hk hlo ha) (optInt_of hk hhi hb) hab hbs
  simp only [execOp, Instr.sliceAt, Sem.run_bind, run_underlying hu, Result.andThen_ok, Instr.slice, ev_sound hk hx, Option.map_none, hbd, Sem.run_pure, sizeOf, typeInfo, run_program, hin, hs]
theorem lw_slice_arr (hT : TabOk P T) {d t size m : Nat} {x : Operand} {ty : TypeId} {ps : String} {af : Array Edge} {b o : Nat} (hx : ev n fr x = some (.pointer (some ⟨b, o, none⟩))) (ht : look T.arrs t = some (m, size))
    (k : LW P ops Q rest n ((d, .slice (some ⟨b, o, none⟩) m m) :: fr) w) :
    LW P ops Q ({ dst := some d, op := .slice t x none none none, type := ty, pos := ps, after := af, guard := none } :: rest) n fr w := by
  obtain ⟨e, inf, hu, hin, hs⟩ := hT.arr ht
  refine lw_run rfl rfl (fun act hk => ?_) k
  have hbd := run_bounds (P := P) (w := w) (isS := false) (len := m) (cap := m) (lo := none) (hi := none) (a := 0) (b := m) (.inl ⟨rfl, rfl⟩) (.inl ⟨rfl, rfl⟩) (Nat.zero_le _) (Nat.le_refl _)
  simp only [execOp, Instr.sliceAt, Sem.run_bind, run_underlying hu, Result.andThen_ok, ev_sound hk hx, Instr.sureAddr, Option.map_none, hbd, Sem.run_pure, sizeOf, typeInfo, run_program, hin, hs, Nat.zero_mul, addr_add, Nat.add_zero, Nat.sub_zero, ite_self]
end
end Go.SK
namespace Go.SK
open Go
attribute [local semireducible] CW LW QW Ret Kn
def NoP (Q : Exit → Act → World → Prop) : Prop := ∀ c a w, ¬ Q (.panic c) a w
theorem nop_then {K : Act → World → Prop} {Q : Exit → Act → World → Prop} (h : NoP Q) : NoP (Exit.then K Q) := h
theorem nop_block {id : Nat} {Q : Exit → Act → World → Prop} (h : NoP Q) : NoP (Exit.inBlock id Q) := h
theorem nop_body {P : Program} {fn : Func} {R : Value → World → Prop} : NoP (bodyPost P fn fun e w' => ∃ v, e = .returned v ∧ R v w') := by
  rintro c a w ⟨_, v, h, _⟩
  cases h
def noB (B : List Nat) (listed : Array Bool) : Bool := B.all fun b => !listed.getD b false
def ancB (ops : Array Oper) : Nat → Nat → Nat → Bool
  | 0, _, _ => false
  | f + 1, j, i => match ops[j]? with
    | none => false
    | some o => o.after.any fun e => Region.binds .any e && (Nat.beq e.on i || ancB ops f e.on i)
def Closed (ops : Array Oper) (listed : Array Bool) : Prop := ∀ j o, ops[j]? = some o → listed.getD j false = true → ∀ e ∈ o.after, Region.binds .any e = true → listed.getD e.on false = true
theorem anc_false {ops : Array Oper} {listed : Array Bool} (hc : Closed ops listed) {i : Nat} (hi : listed.getD i false = false) : ∀ (f j : Nat),
    (∀ o, ops[j]? = some o → ∀ e ∈ o.after, Region.binds .any e = true → listed.getD e.on false = true) → ancB ops f j i = false
  | 0, _, _ => rfl
  | f + 1, j, h => by
    unfold ancB
    split
    · rfl
    · rename_i o ho
      rw [Array.any_eq_false]
      intro k hk
      have hm : o.after[k] ∈ o.after := Array.getElem_mem hk
      cases hb : Region.binds .any o.after[k] with
      | false => simp
      | true =>
        have hl := h o ho _ hm hb
        have hne : Nat.beq o.after[k].on i = false := by
          cases h' : Nat.beq o.after[k].on i with
          | false => rfl
          | true => have := Nat.eq_of_beq_eq_true h'; rw [this, hi] at hl; cases hl
        have := anc_false hc hi f o.after[k].on (fun o' ho' => hc _ o' ho' hl)
        simp [hne, this]
def wpAnyU (P : Program) (ops : Array Oper) (Q : Exit → Act → World → Prop) (S : World → Prop) (B : List Nat) : Nat → Array Bool → Act → World → Prop
  | 0, listed, a, w => Region.ready .any ops listed = [] ∧ Q .normal a w
  | fuel + 1, listed, a, w =>
    (Region.ready .any ops listed = [] → Q .normal a w) ∧
    ∀ i ∈ Region.ready .any ops listed, wpOp P ops Q i (fun a' w' => (noB B (listed.setIfInBounds i true) = true → S w') ∧ wpAnyU P ops Q S B fuel (listed.setIfInBounds i true) a' w') a w
theorem wpAny_of_U {P : Program} {ops : Array Oper} {Q : Exit → Act → World → Prop} {S : World → Prop} {B : List Nat} : ∀ (fuel : Nat) (listed : Array Bool) (a : Act) (w : World), wpAnyU P ops Q S B fuel listed a w → wpAny P .any ops Q fuel listed a w
  | 0, _, _, _, h => h
  | fuel + 1, _, _, _, h => ⟨h.1, fun i hi => wpOp_mono (fun a' w' h' => wpAny_of_U fuel _ a' w' h'.2) (h.2 i hi)⟩
theorem ready_all {ops : Array Oper} {listed : Array Bool} {j : Nat} (hj : j ∈ Region.ready .any ops listed) : ∀ o, ops[j]? = some o → ∀ e ∈ o.after, Region.binds .any e = true → listed.getD e.on false = true := by
  obtain ⟨_, o, ho, hall⟩ := mem_ready.1 hj
  intro o' ho' e he hb
  rw [ho] at ho'
  cases ho'
  exact hall e he hb
theorem getD_set_keep {listed : Array Bool} {i j : Nat} (h : listed.getD j false = true) : (listed.setIfInBounds i true).getD j false = true := by
  by_cases e : i = j
  · subst e
    have : i < listed.size := by
      rcases Nat.lt_or_ge i listed.size with h' | h'
      · exact h'
      · simp [Array.getElem?_eq_none h'] at h
    simp [this]
  · rw [getD_set_ne false e]; exact h
theorem Closed.set {ops : Array Oper} {listed : Array Bool} (hc : Closed ops listed) {i : Nat} (hi : i ∈ Region.ready .any ops listed) : Closed ops (listed.setIfInBounds i true) := by
  intro j o ho hl e he hb
  refine getD_set_keep ?_
  by_cases h : i = j
  · subst h; exact ready_all hi o ho e he hb
  · rw [getD_set_ne false h] at hl
    exact hc j o ho hl e he hb
theorem noB_of_set {B : List Nat} {listed : Array Bool} {i : Nat} (h : noB B (listed.setIfInBounds i true) = true) : noB B listed = true := by
  unfold noB at *
  rw [List.all_eq_true] at *
  intro b hb
  have := h b hb
  cases hg : listed.getD b false with
  | false => rfl
  | true => rw [getD_set_keep hg] at this; cases this
theorem noB_set {B : List Nat} {listed : Array Bool} {i : Nat} (h : noB B listed = true) (hi : i ∉ B) : noB B (listed.setIfInBounds i true) = true := by
  unfold noB at *
  rw [List.all_eq_true] at *
  intro b hb
  have hne : i ≠ b := fun e => hi (by rw [e]; exact hb)
  rw [getD_set_ne false hne]
  exact h b hb
theorem wpAnyU_first {P : Program} {ops : Array Oper} {Q : Exit → Act → World → Prop} {S : World → Prop} {B : List Nat} {i : Nat} {oi : Oper} {v : Value} (C : World → Prop) (hi : ops[i]? = some oi) (hsel : ∀ (j : Nat) (o : Oper) cs b, ops[j]? = some o → o.op ≠ .select cs b)
    (hQ : ∀ c a w, Q (.panic c) (a.put oi.dst v) w → Q (.panic c) a w) (hiB : i ∉ B) (hC : (∀ w, C w) ∨ ((∀ w, S w → C w) ∧ (∀ b ∈ B, ancB ops ops.size b i = true))) :
    ∀ (fuel : Nat) (listed : Array Bool) (a : Act) (w : World), Closed ops listed →
      (∀ j oj, ops[j]? = some oj → j ≠ i → listed.getD j true = false → (∀ e ∈ oj.after, Region.binds .any e = true → e.on ≠ i) → oi.apart ops oj = true) →
      i ∈ Region.ready .any ops listed → YieldsIf P ops C oi v a → C w → ((∀ w, C w) ∨ noB B listed = true) → (noB B (listed.setIfInBounds i true) = true → S w) →
      wpAnyU P ops Q S B fuel (listed.setIfInBounds i true) (a.put oi.dst v) w → wpAnyU P ops Q S B (fuel + 1) listed a w := by
  intro fuel
  induction fuel with
  | zero =>
    intro listed a w hcl _ hr hy hCw hnb hS H
    refine ⟨fun h => (by rw [h] at hr; cases hr), fun j hj => ?_⟩
    by_cases hji : j = i
    · subst hji; exact hy.wpOp hi hCw ⟨hS, H⟩
    · have := ready_mono hj hji
      rw [H.1] at this
      cases this
  | succ fuel ih =>
    intro listed a w hcl hfree hr hy hCw hnb hS H
    refine ⟨fun h => (by rw [h] at hr; cases hr), fun j hj => ?_⟩
    by_cases hji : j = i
    · subst hji; exact hy.wpOp hi hCw ⟨hS, H⟩
    · have h1 := H.2 j (ready_mono hj hji)
      obtain ⟨hjun, oj, hoj, hall⟩ := mem_ready.1 hj
      have hiun : listed.getD i false = false := by
        have h0 := (mem_ready.1 hr).1
        rcases Nat.lt_or_ge i listed.size with h' | h'
        · simp [h'] at h0 ⊢; exact h0
        · simp [Array.getElem?_eq_none h']
      have hnot : ∀ e ∈ oj.after, Region.binds .any e = true → e.on ≠ i := fun e he hb heq => by
        have h1 := hall e he hb
        rw [heq, hiun] at h1
        cases h1
      have hjB : (∀ w, C w) ∨ j ∉ B := by
        rcases hC with hC | ⟨_, hB⟩
        · exact .inl hC
        · refine .inr fun hm => ?_
          have h2 := hB j hm
          rw [anc_false hcl hiun _ j (ready_all hj)] at h2
          cases h2
      have h2 := wpOp_putIf hoj (hfree j oj hoj hji hjun hnot) (fun cs b => hsel i oi cs b hi) (fun cs b => hsel j oj cs b hoj) hQ hy h1
      have hfree' : ∀ k ok, ops[k]? = some ok → k ≠ i → (listed.setIfInBounds j true).getD k true = false →
          (∀ e ∈ ok.after, Region.binds .any e = true → e.on ≠ i) → oi.apart ops ok = true := fun k ok hk hki hun hno => by
        refine hfree k ok hk hki ?_ hno
        by_cases hjk : j = k
        · subst hjk; exact hjun
        · rw [getD_set_ne true hjk] at hun; exact hun
      have hcomm : (listed.setIfInBounds i true).setIfInBounds j true = (listed.setIfInBounds j true).setIfInBounds i true := Array.setIfInBounds_comm _ _ (Ne.symm hji)
      refine wpOp_mono (fun a' w' h3 => ?_) h2
      obtain ⟨hy', hS', hrec⟩ := h3
      rw [hcomm] at hS' hrec
      have hCw' : C w' := by
        rcases hC with hC | ⟨hSC, _⟩
        · exact hC w'
        · rcases hnb with hnb | hnb
          · exact hnb w'
          · rcases hjB with hjB | hjB
            · exact hjB w'
            · exact hSC w' (hS' (noB_set (noB_set hnb hjB) hiB))
      have hnb' : (∀ w, C w) ∨ noB B (listed.setIfInBounds j true) = true := by
        rcases hnb with hnb | hnb
        · exact .inl hnb
        · rcases hjB with hjB | hjB
          · exact .inl hjB
          · exact .inr (noB_set hnb hjB)
      refine ⟨fun hn => ?_, ih (listed.setIfInBounds j true) a' w' (hcl.set hj) hfree' (ready_mono hr (Ne.symm hji)) hy' hCw' hnb' hS' hrec⟩
      exact hS' (noB_set hn hiB)
def RW (P : Program) (ops : Array Oper) (Q : Exit → Act → World → Prop) (S : World → Prop) (B : List Nat) (fuel : Nat) (listed : Array Bool) (n : Nat) (fr : Fr) (w : World) : Prop :=
  NoP Q → Closed ops listed → (noB B listed = true → S w) → ∀ a, Kn n fr a → wpAnyU P ops Q S B fuel listed a w
def YO (P : Program) (ops : Array Oper) (S : World → Prop) (n : Nat) (fr : Fr) (o : Oper) (v : Value) : Prop := ∀ a, Kn n fr a → YieldsIf P ops S o v a
section
variable {P : Program} {T : Tab} {n : Nat} {fr : Fr} {w : World} {Q : Exit → Act → World → Prop} {ops : Array Oper} {S : World → Prop} {B : List Nat} {fuel : Nat} {listed : Array Bool}
theorem closed_none (ops : Array Oper) (m : Nat) : Closed ops (Array.replicate m false) := by
  intro j o _ hl
  have : (Array.replicate m false).getD j false = false := by
    rw [Array.getD_eq_getD_getElem?, Array.getElem?_replicate]; split <;> rfl
  rw [this] at hl; cases hl
theorem cw_draw (hm : P.follows .mixedOrders = true) {id : Nat} {l : List Oper} {m : Nat} {fs : Array Bool} (S : World → Prop) (B : List Nat) (hl : l.length = m) (hfs : Array.replicate m false = fs) (hN : NoP Q)
    (h : ∀ w', Ex w w' → w'.heap = w.heap → S w' ∧ RW P l.toArray Q S B m fs n fr w') : CW P (.region id l.toArray true) Q n fr w := by
  intro a hk
  subst hl
  obtain ⟨h1, h2⟩ := h { w with drawn := w.drawn + 1 } (Ext.drawn w _) rfl
  have := h2 hN (hfs ▸ closed_none _ _) (fun _ => h1) a hk
  refine wp_region_any hm (wpAny_of_U (S := S) (B := B) _ _ _ _ ?_)
  rw [← hfs] at this
  simpa using this
theorem rw_take (i : Nat) {o : Oper} {d : Nat} {v : Value} {listed' : Array Bool} (hi : ops[i]? = some o) (hd : o.dst = some d) (hs : Region.noSelect ops = true) (hf : Region.free .any ops listed i = true)
    (hr : (Region.ready .any ops listed).contains i = true) (hb : (noB B listed && (B.all (fun b => ancB ops ops.size b i) && !B.contains i)) = true) (hl : listed.setIfInBounds i true = listed') (hy : YO P ops S n fr o v) (k : RW P ops Q S B fuel listed' n ((d, v) :: fr) w) : RW P ops Q S B (fuel + 1) listed n fr w := by
  intro hN hc hS a hk
  subst hl
  simp only [Bool.and_eq_true, Bool.not_eq_true'] at hb
  obtain ⟨hb1, hb2, hb3⟩ := hb
  have hrr : i ∈ Region.ready .any ops listed := by simpa using hr
  have := k hN (hc.set hrr) (fun _ => hS hb1) (a.put (some d) v) (hk.put d v)
  rw [← hd] at this
  exact wpAnyU_first S hi (Region.noSelect_spec hs) (fun c a w hq => absurd hq (hN c _ w)) (by simpa using hb3) (.inr ⟨fun _ h => h, fun b hb => List.all_eq_true.1 hb2 b hb⟩) fuel listed a w hc (Region.free_spec hi hf) hrr (hy a hk) (hS hb1) (.inr hb1) (fun _ => hS hb1) this
theorem rw_takeP (i : Nat) {o : Oper} {d : Nat} {v : Value} {listed' : Array Bool} (hi : ops[i]? = some o) (hd : o.dst = some d) (hs : Region.noSelect ops = true) (hf : Region.free .any ops listed i = true)
    (hr : (Region.ready .any ops listed).contains i = true) (hb : (!B.contains i) = true) (hl : listed.setIfInBounds i true = listed') (hy : YO P ops (fun _ => True) n fr o v) (k : RW P ops Q S B fuel listed' n ((d, v) :: fr) w) : RW P ops Q S B (fuel + 1) listed n fr w := by
  intro hN hc hS a hk
  subst hl
  simp only [Bool.not_eq_true'] at hb
  have hrr : i ∈ Region.ready .any ops listed := by simpa using hr
  have hS' : noB B (listed.setIfInBounds i true) = true → S w := fun h => hS (noB_of_set h)
  have := k hN (hc.set hrr) hS' (a.put (some d) v) (hk.put d v)
  rw [← hd] at this
  exact wpAnyU_first (fun _ => True) hi (Region.noSelect_spec hs) (fun c a w hq => absurd hq (hN c _ w)) (by simpa using hb) (.inl fun _ => trivial) fuel listed a w hc (Region.free_spec hi hf) hrr (hy a hk) trivial (.inl fun _ => trivial) hS' this
theorem upon_then {o : Oper} {a : Act} {K : Act → World → Prop} {Q : Exit → Act → World → Prop} {r : Result Next} (h : o.upon P a K (Exit.then K Q) r) : o.upon P a K Q r := by
  cases r with
  | ok x w' =>
    cases x <;> simp only [Oper.upon] at h ⊢ <;> first
      | exact h
      | (refine Calls.mono h ?_; intro e w'' he; cases e <;> exact he)
  | halt x w' => cases x <;> simp only [Oper.upon] at h ⊢ <;> exact h
theorem wpOp_of_lw {i : Nat} {o : Oper} {a : Act} {K : Act → World → Prop} (hi : ops[i]? = some o) (h : wpList P ops (Exit.then K Q) [o] a w) : wpOp P ops Q i K a w := by
  unfold wpOp
  simp only [hi]
  unfold wpList at h
  split
  · rename_i hw
    rw [if_pos hw] at h
    rcases h with h | ⟨h1, h2⟩
    · exact .inl (upon_then h)
    · exact .inr ⟨h1, h2⟩
  · rename_i hw
    rw [if_neg hw] at h
    exact h
theorem wpAnyU_all {rs : List Nat} {listed : Array Bool} {a : Act} {w : World} (hr : Region.ready .any ops listed = rs) (hne : rs ≠ [])
    (h : ∀ i ∈ rs, wpOp P ops Q i (fun a' w' => (noB B (listed.setIfInBounds i true) = true → S w') ∧ wpAnyU P ops Q S B fuel (listed.setIfInBounds i true) a' w') a w) : wpAnyU P ops Q S B (fuel + 1) listed a w :=
  ⟨fun h0 => absurd (hr ▸ h0) hne, hr ▸ h⟩
theorem rw_one (i : Nat) {o : Oper} {listed' : Array Bool} (hi : ops[i]? = some o) (hr : Region.ready .any ops listed = [i]) (hl : listed.setIfInBounds i true = listed')
    (h : Closed ops listed' → LW P ops (Exit.then (fun a w => (noB B listed' = true → S w) ∧ wpAnyU P ops Q S B fuel listed' a w) Q) [o] n fr w) : RW P ops Q S B (fuel + 1) listed n fr w := by
  intro hN hc hS a hk
  subst hl
  refine wpAnyU_all hr (by simp) fun j hj => ?_
  obtain rfl : j = i := by simpa using hj
  exact wpOp_of_lw hi (h (hc.set (by rw [hr]; exact hj)) a hk)
theorem rw_two (i j : Nat) {oi oj : Oper} {li lj : Array Bool} (hi : ops[i]? = some oi) (hj : ops[j]? = some oj) (hr : Region.ready .any ops listed = [i, j]) (hli : listed.setIfInBounds i true = li) (hlj : listed.setIfInBounds j true = lj)
    (h1 : Closed ops li → LW P ops (Exit.then (fun a w => (noB B li = true → S w) ∧ wpAnyU P ops Q S B fuel li a w) Q) [oi] n fr w)
    (h2 : Closed ops lj → LW P ops (Exit.then (fun a w => (noB B lj = true → S w) ∧ wpAnyU P ops Q S B fuel lj a w) Q) [oj] n fr w) : RW P ops Q S B (fuel + 1) listed n fr w := by
  intro hN hc hS a hk
  subst hli; subst hlj
  refine wpAnyU_all hr (by simp) fun k hk' => ?_
  have hmem : k ∈ Region.ready .any ops listed := by rw [hr]; exact hk'
  simp only [List.mem_cons, List.not_mem_nil, or_false] at hk'
  rcases hk' with rfl | rfl
  · exact wpOp_of_lw hi (h1 (hc.set hmem) a hk)
  · exact wpOp_of_lw hj (h2 (hc.set hmem) a hk)
theorem qw_rw {listed' : Array Bool} (hN : NoP Q) (hc : Closed ops listed') (hS : noB B listed' = true → S w) (h : RW P ops Q S B fuel listed' n fr w) : QW (Exit.then (fun a w => (noB B listed' = true → S w) ∧ wpAnyU P ops Q S B fuel listed' a w) Q) .normal n fr w :=
  fun a hk => ⟨hS, h hN hc hS a hk⟩
theorem wpAnyU_done {listed : Array Bool} {a : Act} {w : World} (hr : Region.ready .any ops listed = []) (h : Q .normal a w) : ∀ fuel, wpAnyU P ops Q S B fuel listed a w
  | 0 => ⟨hr, h⟩
  | _ + 1 => ⟨fun _ => h, by rw [hr]; simp⟩
theorem rw_done (hr : Region.ready .any ops listed = []) (h : QW Q .normal n fr w) : RW P ops Q S B fuel listed n fr w := fun _ _ _ a hk => wpAnyU_done hr (h a hk) fuel
theorem rw_split {d : Nat} {b : Bool} (h : lk fr d = some (.bool b)) (ht : b = true → RW P ops Q S B fuel listed n ((d, .bool true) :: fr) w) (hf : b = false → RW P ops Q S B fuel listed n ((d, .bool false) :: fr) w) :
    RW P ops Q S B fuel listed n fr w := fun hN hc hS a hk => by
  cases b with
  | true => exact ht rfl hN hc hS a (hk.also h)
  | false => exact hf rfl hN hc hS a (hk.also h)
theorem yo_run {o : Oper} (hg : o.guard = none) {v : Value} (h : ∀ a, Kn n fr a → ∀ w, S w → (execOp a.eval o).run P w = .ok (.value v) w) : YO P ops S n fr o v := fun a hk =>
  .inl ⟨by simp [Region.wanted, hg], h a hk⟩
theorem yo_pure (hT : TabOk P T) {d : Nat} {op : Op} {ty : TypeId} {ps : String} {af : Array Edge} {v : Value} (h : pv T n fr op = some v) :
    YO P ops S n fr { dst := some d, op := op, type := ty, pos := ps, after := af, guard := none } v := yo_run rfl fun _ hk w _ => pv_sound hT hk h w
theorem yo_off {j d : Nat} {b want : Bool} {dst : Option Tmp} {op : Op} {ty : TypeId} {ps : String} {af : Array Edge} (h : gd ops n fr j = some (d, .bool b)) (hne : (b == want) = false) :
    YO P ops S n fr { dst := dst, op := op, type := ty, pos := ps, after := af, guard := some (j, want) } undef := fun a hk => .inr ⟨by
    obtain ⟨h1, _⟩ := gd_sound hk h
    unfold Region.wanted
    simp only [h1]
    have : (some b == some want) = (b == want) := rfl
    rw [this]; exact hne, rfl⟩
theorem yo_on {j d : Nat} {b want : Bool} {dst : Option Tmp} {op : Op} {ty : TypeId} {ps : String} {af : Array Edge} {v : Value} (h : gd ops n fr j = some (d, .bool b)) (he : (b == want) = true)
    (k : YO P ops S n fr { dst := dst, op := op, type := ty, pos := ps, after := af, guard := none } v) : YO P ops S n fr { dst := dst, op := op, type := ty, pos := ps, after := af, guard := some (j, want) } v := fun a hk => by
  obtain ⟨h1, _⟩ := gd_sound hk h
  refine .inl ⟨?_, ?_⟩
  · unfold Region.wanted
    simp only [h1]
    have : (some b == some want) = (b == want) := rfl
    rw [this]; exact he
  · rcases k a hk with ⟨_, h2⟩ | ⟨h2, _⟩
    · exact h2
    · simp [Region.wanted] at h2
theorem yo_load (hT : TabOk P T) {d t size : Nat} {x : Operand} {ty : TypeId} {ps : String} {af : Array Edge} {b o : Nat} {v : Value} (hx : ev n fr x = some (.pointer (some ⟨b, o, none⟩)))
    (ht : look T.kinds t = some (false, size)) (hc : ∀ w, S w → w.cell? ⟨b, o, none⟩ = some v) :
    YO P ops S n fr { dst := some d, op := .load t x, type := ty, pos := ps, after := af, guard := none } v :=
  yo_run rfl fun a hk w hS => by simp [execOp, ev_sound hk hx, Instr.loadAt, Instr.sureAddr, run_loadVar_one hT ht (hc w hS)]
theorem yo_load_agg (hT : TabOk P T) {d t size : Nat} {x : Operand} {ty : TypeId} {ps : String} {af : Array Edge} {b o : Nat} {vs : List Value} (hx : ev n fr x = some (.pointer (some ⟨b, o, none⟩)))
    (ht : look T.kinds t = some (true, size)) (hl : Nat.beq vs.length size = true) (hc : ∀ w, S w → Rd w b o vs) :
    YO P ops S n fr { dst := some d, op := .load t x, type := ty, pos := ps, after := af, guard := none } (.agg ⟨vs⟩) :=
  yo_run rfl fun a hk w hS => by simp [execOp, ev_sound hk hx, Instr.loadAt, Instr.sureAddr, run_loadVar_agg hT ht (Nat.eq_of_beq_eq_true hl) (hc w hS)]
theorem yo_index (hT : TabOk P T) {d t size : Nat} {x y : Operand} {ty : TypeId} {ps : String} {af : Array Edge} {b o len cap : Nat} {q : IntKind} {i : Int} (hx : ev n fr x = some (.slice (some ⟨b, o, none⟩) len cap))
    (hy : ev n fr y = some (.int q i)) (ht : look T.sls t = some size) (j : Nat) (hj : i = (j : Int)) (hlt : j < len) :
    YO P ops S n fr { dst := some d, op := .indexAddr t x y, type := ty, pos := ps, after := af, guard := none } (.pointer (some ⟨b, o + j * size, none⟩)) := by
  obtain ⟨e, inf, hu, hi, hs⟩ := hT.sl ht
  subst hj
  refine yo_run rfl fun a hk w _ => ?_
  simp [execOp, ev_sound hk hx, ev_sound hk hy, Instr.indexAt, asIntOf, run_underlying hu, sizeOf, typeInfo, hi, hs, addr_add, hlt]
theorem yo_index_arr (hT : TabOk P T) {d t size m : Nat} {x y : Operand} {ty : TypeId} {ps : String} {af : Array Edge} {b o : Nat} {q : IntKind} {i : Int} (hx : ev n fr x = some (.pointer (some ⟨b, o, none⟩)))
    (hy : ev n fr y = some (.int q i)) (ht : look T.arrs t = some (m, size)) (j : Nat) (hj : i = (j : Int)) (hlt : j < m) :
    YO P ops S n fr { dst := some d, op := .indexAddr t x y, type := ty, pos := ps, after := af, guard := none } (.pointer (some ⟨b, o + j * size, none⟩)) := by
  obtain ⟨e, inf, hu, hi, hs⟩ := hT.arr ht
  subst hj
  refine yo_run rfl fun a hk w _ => ?_
  simp [execOp, ev_sound hk hx, ev_sound hk hy, Instr.indexAt, asIntOf, run_underlying hu, sizeOf, typeInfo, hi, hs, addr_add, hlt, Instr.sureAddr]
theorem yo_byte (hT : TabOk P T) {d t : Nat} {x y : Operand} {ty : TypeId} {ps : String} {af : Array Edge} {s : ByteArray} {q : IntKind} {i : Int} (hx : ev n fr x = some (.string s))
    (hy : ev n fr y = some (.int q i)) (ht : memN T.strs t = true) (j : Nat) (hj : i = (j : Int)) (hlt : j < s.size) :
    YO P ops S n fr { dst := some d, op := .index t x y, type := ty, pos := ps, after := af, guard := none } (.int .u8 (s[j].toNat : Nat)) := by
  subst hj
  refine yo_run rfl fun a hk w _ => ?_
  simp [execOp, ev_sound hk hx, ev_sound hk hy, Instr.index, asIntOf, run_underlying (hT.str ht), hlt]
theorem yo_lookup_ok {d t e b : Nat} {z : Value} {es : List (ByteArray × Value)} {ks : ByteArray} {x y : Operand} {ty : TypeId} {ps : String} {af : Array Edge} (hM : MpT P t e z) (hx : ev n fr x = some (.map (some b))) (hy : ev n fr y = some (.string ks)) (hm : ∀ w, S w → Mp w b es) :
    YO P ops S n fr { dst := some d, op := .lookup t x y true, type := ty, pos := ps, after := af, guard := none } (.tuple #[(mget es ks).getD z, .bool (mget es ks).isSome]) :=
  yo_run rfl fun a hk w hS => by simp [execOp, ev_sound hk hx, ev_sound hk hy, run_lookup_mp hM (hm w hS)]
theorem yo_sum {op : BinOp} {d : Nat} {x y : Operand} {t t' : TypeId} {ty : TypeId} {ps : String} {af : Array Edge} {a b r : Int} (hx : ev n fr x = some (.int .i64 a)) (hy : ev n fr y = some (.int .i64 b))
    (ho : (op = .add ∧ r = a + b) ∨ (op = .sub ∧ r = a - b) ∨ (op = .mul ∧ r = a * b)) (hl : -9223372036854775808 ≤ r) (hu : r ≤ 9223372036854775807) :
    YO P ops S n fr { dst := some d, op := .binOp op t x y t', type := ty, pos := ps, after := af, guard := none } (.int .i64 r) :=
  yo_run rfl fun a' hk w _ => by
    have e : IntKind.i64.wrap r = r := IntWalk.i64_in _ ⟨hl, hu⟩
    rcases ho with ⟨rfl, hr⟩ | ⟨rfl, hr⟩ | ⟨rfl, hr⟩ <;> subst hr <;> simp [execOp, ev_sound hk hx, ev_sound hk hy, eqGuard, binOp, Op.intArith, e]
theorem yo_conv_int (hT : TabOk P T) {d s t : Nat} {q q' : IntKind} {i : Int} {x : Operand} {ty : TypeId} {ps : String} {af : Array Edge} (hx : ev n fr x = some (.int q i)) (hs : look T.ints s = some q) (ht : look T.ints t = some q') (hw : q'.wrap i = i) :
    YO P ops S n fr { dst := some d, op := .convert s t x, type := ty, pos := ps, after := af, guard := none } (.int q' i) :=
  yo_run rfl fun a hk w _ => by simp [execOp, ev_sound hk hx, convert, run_underlying (hT.int hs), run_underlying (hT.int ht), Conv.intToInt, hw]
theorem yo_slice_str (hT : TabOk P T) {d t : Nat} {x : Operand} {lo hi : Option Operand} {ty : TypeId} {ps : String} {af : Array Edge} {s : ByteArray} {l h : Int} (hx : ev n fr x = some (.string s)) (ht : memN T.strs t = true)
    (hlo : optInt n fr 0 lo = some l) (hhi : optInt n fr s.size hi = some h) (a b : Nat) (ha : l = (a : Int)) (hb : h = (b : Int)) (hab : a ≤ b) (hbs : b ≤ s.size) :
    YO P ops S n fr { dst := some d, op := .slice t x lo hi none, type := ty, pos := ps, after := af, guard := none } (.string (s.extract a b)) :=
  yo_run rfl fun act hk w _ => by
    have hbd := run_bounds (P := P) (w := w) (isS := false) (len := s.size) (cap := s.size) (optInt_of hk hlo ha) (optInt_of hk hhi hb) hab hbs
    simp only [execOp, Instr.sliceAt, Sem.run_bind, run_underlying (hT.str ht), Result.andThen_ok, Instr.slice, ev_sound hk hx, Option.map_none, Option.isSome_none, Bool.false_eq_true, if_false, hbd, Sem.run_pure]
theorem yo_slice_sl (hT : TabOk P T) {d t size : Nat} {x : Operand} {lo hi : Option Operand} {ty : TypeId} {ps : String} {af : Array Edge} {p : Option Addr} {len cap : Nat} {l h : Int} (hx : ev n fr x = some (.slice p len cap)) (ht : look T.sls t = some size)
    (hlo : optInt n fr 0 lo = some l) (hhi : optInt n fr len hi = some h) (a b : Nat) (ha : l = (a : Int)) (hb : h = (b : Int)) (hab : a ≤ b) (hbs : b ≤ cap) :
    YO P ops S n fr { dst := some d, op := .slice t x lo hi none, type := ty, pos := ps, after := af, guard := none } (.slice (if cap = a then p else p.map (·.add (a * size))) (b - a) (cap - a)) := by
  obtain ⟨e, inf, hu, hin, hs⟩ := hT.sl ht
  refine yo_run rfl fun act hk w _ => ?_
  have hbd := run_bounds (P := P) (w := w) (isS := true) (len := len) (cap := cap) (optInt_of hk hlo ha) (optInt_of hk hhi hb) hab hbs
  simp only [execOp, Instr.sliceAt, Sem.run_bind, run_underlying hu, Result.andThen_ok, Instr.slice, ev_sound hk hx, Option.map_none, hbd, Sem.run_pure, sizeOf, typeInfo, run_program, hin, hs]
def smO : List Value → Nat → List Value → Option (List Value)
  | cs, _, [] => some cs
  | cs, o, v :: r => match lset cs o v with
    | some cs' => smO cs' (o + 1) r
    | none => none
theorem lset_eq : ∀ {l r : List Value} {i : Nat} {v : Value}, lset l i v = some r → r = l.set i v ∧ i < l.length
  | [], _, _, _, h => by simp [lset] at h
  | _ :: l, r, 0, v, h => by simp [lset] at h; simp [← h]
  | a :: l, r, i + 1, v, h => by
    simp only [lset] at h
    cases hl : lset l i v with
    | none => simp [hl] at h
    | some r' =>
      simp only [hl, Option.some.injEq] at h
      obtain ⟨h1, h2⟩ := lset_eq hl
      subst h; subst h1
      simp [h2]
theorem smO_eq : ∀ {vs cs r : List Value} {o : Nat}, smO cs o vs = some r → r = setMany cs o vs ∧ (vs ≠ [] → o + vs.length ≤ cs.length) ∧ r.length = cs.length
  | [], cs, r, o, h => by simp [smO] at h; simp [← h, setMany]
  | v :: vs, cs, r, o, h => by
    simp only [smO] at h
    cases hl : lset cs o v with
    | none => simp [hl] at h
    | some cs' =>
      simp only [hl] at h
      obtain ⟨h1, h2⟩ := lset_eq hl
      obtain ⟨g1, g2, g3⟩ := smO_eq h
      subst h1
      refine ⟨by simpa [setMany] using g1, fun _ => ?_, by simpa using g3⟩
      cases vs with
      | nil => simp; omega
      | cons u us => have := g2 (by simp); simp at this ⊢; omega
def fillO (n : Nat) (fr : Fr) (pls : List (Nat × Nat)) : List Value → List (Nat × Operand) → Option (List Value)
  | cs, [] => some cs
  | cs, (i, x) :: r => match look (pls.zipIdx.map fun p => (p.2, p.1)) i, ev n fr x with
    | some (off, size), some v => match cellsIf v size with
      | some l => match smO cs off l with
        | some cs' => fillO n fr pls cs' r
        | none => none
      | none => none
    | _, _ => none
def BuildT (P : Program) (t : Nat) (zs : List Value) (pls : List (Nat × Nat)) : Prop :=
  ∃ fs i z, P.underlying t = some (.struct fs) ∧ P.info? t = some i ∧ i.zero = some z ∧ z.cells = ⟨zs⟩ ∧ fs.toList.mapM (fun f => (P.info? f.type).map fun i => (f.offset, i.size)) = some pls ∧ ∀ p ∈ pls, 0 < p.2
theorem buildT_of {P : Program} {t : Nat} {zs : List Value} {pls : List (Nat × Nat)} {fs : Array Field} (h1 : P.underlying t = some (.struct fs)) (h2 : (P.info? t).bind (fun i => i.zero.map (·.cells)) = some ⟨zs⟩)
    (h3 : fs.toList.mapM (fun f => (P.info? f.type).map fun i => (f.offset, i.size)) = some pls) (h4 : pls.all (fun p => Nat.blt 0 p.2) = true) : BuildT P t zs pls := by
  obtain ⟨i, hi, h⟩ := Option.bind_eq_some_iff.1 h2
  obtain ⟨z, hz, hz2⟩ := Option.map_eq_some_iff.1 h
  exact ⟨fs, i, z, h1, hi, hz, hz2, h3, fun p hp => by have := List.all_eq_true.1 h4 p hp; simpa [Nat.blt_eq] using this⟩
theorem look_zip {pls : List (Nat × Nat)} {i : Nat} {p : Nat × Nat} (h : look (pls.zipIdx.map fun p => (p.2, p.1)) i = some p) : pls[i]? = some p := by
  have := look_mem h
  simp only [List.mem_map, Prod.mk.injEq] at this
  obtain ⟨⟨q, k⟩, hm, h1, h2⟩ := this
  subst h1; subst h2
  exact List.mk_mem_zipIdx_iff_getElem?.1 hm
theorem foldl_setMany (off : Nat) : ∀ (c : List Value) (k : Nat) (cs : Array Value), (c.zipIdx k).foldl (fun cs (x : Value × Nat) => cs.setIfInBounds (off + x.2) x.1) cs = ⟨setMany cs.toList (off + k) c⟩
  | [], k, cs => by simp [setMany]
  | v :: c, k, cs => by
    simp only [List.zipIdx_cons, List.foldl_cons]
    rw [foldl_setMany off c]
    simp [setMany, Nat.add_assoc]
theorem fill_O {a : Act} (hk : Kn n fr a) {pls : List (Nat × Nat)} (hpos : ∀ p ∈ pls, 0 < p.2) : ∀ (l : List (Nat × Operand)) (cs vs : List Value), fillO n fr pls cs l = some vs →
    Instr.fill (fun i => pls[i]?) ⟨cs⟩ (l.map fun x => (x.1, a.eval x.2)) = some ⟨vs⟩
  | [], cs, vs, h => by simp only [fillO, Option.some.injEq] at h; subst h; rfl
  | (i, x) :: r, cs, vs, h => by
    simp only [fillO] at h
    split at h
    · rename_i off size v hl hx
      split at h
      · rename_i l hc
        split at h
        · rename_i cs' hs
          have hp := look_zip hl
          obtain ⟨e1, e2⟩ := cellsIf_eq hc
          obtain ⟨g1, g2, _⟩ := smO_eq hs
          have hne : l ≠ [] := by
            rintro rfl
            have := hpos _ (List.mem_of_getElem? hp)
            simp at e2; omega
          have hle := g2 hne
          have := fill_O hk hpos r cs' vs h
          simp only [List.map_cons, Instr.fill, hp, ev_sound hk hx, e1]
          rw [if_neg (by simp [e2]; omega)]
          rw [← Array.foldl_toList, Array.toList_zipIdx, foldl_setMany, ← this, g1]
          simp
        · cases h
      · cases h
    · cases h
theorem run_build {t : Nat} {zs vs : List Value} {pls : List (Nat × Nat)} {parts : Array (Nat × Operand)} {a : Act} (hk : Kn n fr a) (hB : BuildT P t zs pls) (h : fillO n fr pls zs parts.toList = some vs) :
    (Instr.build t (parts.map fun (i, x) => (i, a.eval x))).run P w = .ok (.agg ⟨vs⟩) w := by
  obtain ⟨fs, i, z, hu, hi, hz, hzs, hm, hpos⟩ := hB
  have key : ∀ (l : List Field) (ps : List (Nat × Nat)), l.mapM (fun f => (P.info? f.type).map fun i => (f.offset, i.size)) = some ps →
      (l.mapM (fun f => (do pure (f.offset, ← sizeOf f.type) : Sem (Nat × Nat)))).run P w = .ok ps w := by
    intro l
    induction l with
    | nil => intro ps h; simp at h; subst h; rfl
    | cons f l ih =>
      intro ps h
      simp only [List.mapM_cons, Option.bind_eq_bind, Option.pure_def, Option.bind_eq_some_iff, Option.map_eq_some_iff] at h
      obtain ⟨p, ⟨j, hj, hp⟩, ps', h1, h2⟩ := h
      simp only [Option.some.injEq] at h2
      subst h2; subst hp
      have e1 : (do pure (f.offset, ← sizeOf f.type) : Sem (Nat × Nat)).run P w = .ok (f.offset, j.size) w := by simp [sizeOf, typeInfo, hj]
      rw [List.mapM_cons, Sem.run_bind, e1, Result.andThen_ok, Sem.run_bind, ih _ h1]
      rfl
  have e2 : (fs.mapM (fun f => (do pure (f.offset, ← sizeOf f.type) : Sem (Nat × Nat)))).run P w = .ok ⟨pls⟩ w := by
    rw [Array.mapM_eq_mapM_toList, Sem.run_map, key _ _ hm]; rfl
  have e3 := fill_O hk hpos parts.toList zs vs h
  have hparts : (parts.map fun (i, x) => (i, a.eval x)).toList = parts.toList.map fun x => (x.1, a.eval x.2) := by simp
  simp only [Instr.build, Sem.run_bind, zeroValue, typeInfo, run_program, Result.andThen_ok, hi, Sem.run_pure, hz, run_underlying hu, e2, hparts, hzs]
  rw [show (fun i => (⟨pls⟩ : Array (Nat × Nat))[i]?) = fun i => pls[i]? from by funext i; simp, e3]
  rfl
theorem lw_build {rest : List Oper} {d t : Nat} {zs vs : List Value} {pls : List (Nat × Nat)} {parts : Array (Nat × Operand)} {ty : TypeId} {ps : String} {af : Array Edge} (hB : BuildT P t zs pls) (h : fillO n fr pls zs parts.toList = some vs)
    (k : LW P ops Q rest n ((d, .agg ⟨vs⟩) :: fr) w) : LW P ops Q ({ dst := some d, op := .build t parts, type := ty, pos := ps, after := af, guard := none } :: rest) n fr w :=
  lw_run rfl rfl (fun a hk => by simp only [execOp, Sem.run_bind, run_build hk hB h, Result.andThen_ok, Sem.run_pure]) k
theorem yo_build {d t : Nat} {zs vs : List Value} {pls : List (Nat × Nat)} {parts : Array (Nat × Operand)} {ty : TypeId} {ps : String} {af : Array Edge} (hB : BuildT P t zs pls) (h : fillO n fr pls zs parts.toList = some vs) :
    YO P ops S n fr { dst := some d, op := .build t parts, type := ty, pos := ps, after := af, guard := none } (.agg ⟨vs⟩) :=
  yo_run rfl fun a hk w _ => by simp only [execOp, Sem.run_bind, run_build hk hB h, Result.andThen_ok, Sem.run_pure]
end
attribute [irreducible] RW YO
end Go.SK
namespace Go.Proofs.YtnglkhnfmbnfeaaGreat
open Go Go.SK
def T : Tab where
  flds := [(7, 0, 0, 1, false), (7, 1, 1, 1, false), (7, 2, 2, 1, false), (7, 3, 3, 1, false), (8, 0, 0, 1, false), (8, 1, 1, 1, false), (8, 2, 2, 1, false), (8, 3, 3, 1, false), (13, 0, 0, 1, false), (13, 1, 1, 1, false), (14, 0, 0, 1, false), (14, 1, 1, 1, false), (18, 0, 0, 1, false), (19, 0, 0, 1, false), (27, 0, 0, 1, false), (27, 1, 1, 1, false), (28, 0, 0, 1, false), (28, 1, 1, 1, false), (32, 0, 0, 1, false), (32, 1, 1, 1, false), (32, 2, 2, 1, false), (32, 3, 3, 1, false), (32, 4, 4, 1, false), (32, 5, 5, 1, false), (32, 6, 6, 1, false), (32, 7, 7, 1, false), (32, 8, 8, 1, false), (33, 0, 0, 1, false), (33, 1, 1, 1, false), (33, 2, 2, 1, false), (33, 3, 3, 1, false), (33, 4, 4, 1, false), (33, 5, 5, 1, false), (33, 6, 6, 1, false), (33, 7, 7, 1, false), (33, 8, 8, 1, false), (44, 0, 0, 1, false), (44, 1, 1, 1, false), (44, 2, 2, 1, false), (44, 3, 3, 1, false), (44, 4, 4, 1, false), (44, 5, 5, 1, false), (44, 6, 6, 1, false), (44, 7, 7, 1, false), (44, 8, 8, 1, false), (45, 0, 0, 1, false), (45, 1, 1, 1, false), (45, 2, 2, 1, false), (45, 3, 3, 1, false), (45, 4, 4, 1, false), (45, 5, 5, 1, false), (45, 6, 6, 1, false), (45, 7, 7, 1, false), (45, 8, 8, 1, false), (55, 0, 0, 9, true), (55, 1, 9, 1, false), (55, 2, 10, 1, false), (56, 0, 0, 9, true), (56, 1, 9, 1, false), (56, 2, 10, 1, false), (72, 0, 0, 1, false), (72, 1, 1, 1, false), (72, 2, 2, 1, false), (72, 3, 3, 1, false), (72, 4, 4, 1, false), (72, 5, 5, 1, false), (72, 6, 6, 9, true), (73, 0, 0, 1, false), (73, 1, 1, 1, false), (73, 2, 2, 1, false), (73, 3, 3, 1, false), (73, 4, 4, 1, false), (73, 5, 5, 1, false), (73, 6, 6, 9, true), (79, 0, 0, 1, false), (79, 1, 1, 1, false), (80, 0, 0, 1, false), (80, 1, 1, 1, false), (83, 0, 0, 1, false), (83, 1, 1, 1, false), (83, 2, 2, 1, false), (84, 0, 0, 1, false), (84, 1, 1, 1, false), (84, 2, 2, 1, false), (86, 0, 0, 9, true), (86, 1, 9, 1, false), (86, 2, 10, 9, true), (87, 0, 0, 9, true), (87, 1, 9, 1, false), (87, 2, 10, 9, true), (125, 0, 0, 1, false), (125, 1, 1, 1, false), (125, 2, 2, 1, false), (126, 0, 0, 1, false), (126, 1, 1, 1, false), (126, 2, 2, 1, false), (128, 0, 0, 1, false), (128, 1, 1, 1, false), (128, 2, 2, 1, false), (128, 3, 3, 1, false), (129, 0, 0, 1, false), (129, 1, 1, 1, false), (129, 2, 2, 1, false), (129, 3, 3, 1, false), (135, 0, 0, 1, false), (135, 1, 1, 1, false), (135, 2, 2, 1, false), (135, 3, 3, 1, false), (135, 4, 4, 1, false), (135, 5, 5, 1, false), (135, 6, 6, 1, false), (135, 7, 7, 1, false), (136, 0, 0, 1, false), (136, 1, 1, 1, false), (136, 2, 2, 1, false), (136, 3, 3, 1, false), (136, 4, 4, 1, false), (136, 5, 5, 1, false), (136, 6, 6, 1, false), (136, 7, 7, 1, false), (138, 0, 0, 1, false), (138, 1, 1, 1, false), (138, 2, 2, 1, false), (138, 3, 3, 1, false), (139, 0, 0, 1, false), (139, 1, 1, 1, false), (139, 2, 2, 1, false), (139, 3, 3, 1, false), (169, 0, 0, 1, false), (169, 1, 1, 1, false), (188, 0, 0, 1, false), (188, 1, 1, 1, false), (188, 2, 2, 1, false), (188, 3, 3, 1, false), (189, 0, 0, 1, false), (189, 1, 1, 1, false), (189, 2, 2, 1, false), (189, 3, 3, 1, false), (218, 0, 0, 1, false), (218, 1, 1, 1, false), (218, 2, 2, 1, false), (218, 3, 3, 1, false), (219, 0, 0, 1, false), (219, 1, 1, 1, false), (219, 2, 2, 1, false), (219, 3, 3, 1, false), (230, 0, 0, 1, false), (230, 1, 1, 1, false), (230, 2, 2, 1, false), (230, 3, 3, 1, false), (230, 4, 4, 1, false), (230, 5, 5, 1, false), (230, 6, 6, 1, false), (230, 7, 7, 1, false), (230, 8, 8, 1, false), (230, 9, 9, 1, false), (230, 10, 10, 1, false), (231, 0, 0, 1, false), (231, 1, 1, 1, false), (231, 2, 2, 1, false), (231, 3, 3, 1, false), (231, 4, 4, 1, false), (231, 5, 5, 1, false), (231, 6, 6, 1, false), (231, 7, 7, 1, false), (231, 8, 8, 1, false), (231, 9, 9, 1, false), (231, 10, 10, 1, false)]
  sls := [(22, 15), (26, 11), (31, 1), (39, 1), (47, 9), (54, 3), (82, 4), (89, 3), (98, 1), (103, 9), (121, 4), (132, 1), (149, 1), (172, 2)]
  arrs := [(85, 3, 3), (220, 0, 1)]
  kinds := [(1, false, 1), (2, false, 1), (3, false, 1), (4, false, 1), (5, false, 1), (6, false, 1), (7, true, 4), (8, true, 4), (9, false, 1), (10, false, 1), (11, false, 1), (12, false, 1), (13, true, 2), (14, true, 2), (15, false, 1), (16, false, 1), (17, false, 1), (18, true, 1), (19, true, 1), (21, false, 1), (22, false, 1), (23, false, 1), (24, false, 1), (25, false, 1), (26, false, 1), (27, true, 2), (28, true, 2), (30, false, 1), (31, false, 1), (32, true, 9), (33, true, 9), (35, false, 1), (36, false, 1), (37, false, 1), (38, false, 1), (39, false, 1), (40, false, 1), (41, false, 1), (42, false, 1), (43, false, 1), (44, true, 9), (45, true, 9), (46, false, 1), (47, false, 1), (48, false, 1), (49, false, 1), (50, false, 1), (51, false, 1), (53, false, 1), (54, false, 1), (55, true, 11), (56, true, 11), (57, false, 1), (58, false, 1), (59, false, 1), (60, false, 1), (61, false, 1), (62, false, 1), (63, false, 1), (64, false, 1), (65, false, 1), (66, false, 1), (67, false, 1), (68, false, 1), (69, false, 1), (70, false, 1), (71, false, 1), (72, true, 15), (73, true, 15), (74, false, 1), (75, false, 1), (76, false, 1), (78, false, 1), (79, true, 2), (80, true, 2), (81, false, 1), (82, false, 1), (83, true, 3), (84, true, 3), (85, true, 9), (86, true, 19), (87, true, 19), (88, false, 1), (89, false, 1), (90, false, 1), (91, false, 1), (92, false, 1), (93, false, 1), (94, false, 1), (95, false, 1), (96, false, 1), (97, false, 1), (98, false, 1), (99, false, 1), (100, false, 1), (101, false, 1), (102, false, 1), (103, false, 1), (104, false, 1), (105, false, 1), (106, false, 1), (107, false, 1), (108, false, 1), (109, false, 1), (110, false, 1), (111, false, 1), (112, false, 1), (113, false, 1), (114, false, 1), (115, false, 1), (116, false, 1), (118, false, 1), (119, false, 1), (120, false, 1), (121, false, 1), (122, false, 1), (123, false, 1), (124, false, 1), (125, true, 3), (126, true, 3), (127, false, 1), (128, true, 4), (129, true, 4), (130, false, 1), (131, false, 1), (132, false, 1), (134, false, 1), (135, true, 8), (136, true, 8), (137, false, 1), (138, true, 4), (139, true, 4), (140, false, 1), (141, false, 1), (143, false, 1), (144, false, 1), (145, false, 1), (146, false, 1), (147, false, 1), (148, false, 1), (149, false, 1), (150, false, 1), (151, false, 1), (152, false, 1), (153, false, 1), (154, false, 1), (155, false, 1), (156, false, 1), (157, false, 1), (158, false, 1), (159, false, 1), (160, false, 1), (161, false, 1), (163, false, 1), (164, false, 1), (165, false, 1), (166, false, 1), (167, false, 1), (168, false, 1), (169, true, 2), (170, false, 1), (171, false, 1), (172, false, 1), (174, false, 1), (175, false, 1), (176, false, 1), (177, false, 1), (178, false, 1), (179, false, 1), (180, false, 1), (181, false, 1), (182, false, 1), (183, false, 1), (184, false, 1), (185, false, 1), (186, false, 1), (187, false, 1), (188, true, 4), (189, true, 4), (191, false, 1), (192, false, 1), (193, false, 1), (195, false, 1), (196, false, 1), (197, false, 1), (199, false, 1), (200, false, 1), (201, false, 1), (202, false, 1), (203, false, 1), (204, false, 1), (205, false, 1), (206, false, 1), (207, false, 1), (208, false, 1), (209, false, 1), (210, false, 1), (211, false, 1), (212, false, 1), (213, false, 1), (214, false, 1), (216, false, 1), (217, false, 1), (218, true, 4), (219, true, 4), (220, true, 0), (221, true, 0), (222, true, 0), (223, false, 1), (224, false, 1), (225, false, 1), (226, false, 1), (227, false, 1), (228, false, 1), (229, false, 1), (230, true, 11), (231, true, 11)]
  strs := [9, 10, 11]
  ptrs := [15, 16, 17, 25, 76, 137, 210, 214, 227]
  ints := [(2, .i64), (3, .i64), (5, .u8), (6, .u8), (12, .u64), (21, .i32), (37, .i64), (184, .u64), (193, .i64), (201, .u32), (203, .u64), (206, .u64), (224, .u8), (225, .u8), (228, .i32), (229, .i32)]
  fns := [3, 4, 5, 6, 7, 8, 9, 10, 11, 12, 13, 14, 15, 16, 17, 18, 19, 20, 21, 22, 23, 24, 25, 26, 27, 28, 29, 30, 31, 32, 33, 34, 35, 36, 37, 38, 39, 40, 41, 42, 43, 44, 45, 46, 47, 48, 49, 50, 51, 52, 53, 54, 55, 56, 57, 58, 59, 60, 61, 62, 63, 64, 65, 66, 67, 68, 69, 70, 71, 72, 73, 74, 75, 76, 77, 78, 79, 80, 81, 82, 83, 84, 85, 86, 87, 88, 89, 90, 91, 92, 93, 94, 95, 96, 97, 98, 99, 100, 101, 102, 103, 104, 105, 106, 107, 108, 109, 110, 111, 112, 113, 114, 115, 116, 117, 118, 119, 120, 121, 122, 123, 124, 125, 126, 127, 128, 129, 130, 131, 132, 133, 134, 135, 136, 137, 138, 139, 140, 141, 142, 143, 144, 145, 146, 147, 148, 149, 150, 151, 152, 153, 154, 155, 156, 157, 158, 159, 160, 161, 162, 163, 164, 165, 166, 167, 168, 169, 170, 171, 172]
theorem hT : TabOk Tryz.prog T := ⟨by kernel_rfl, by kernel_rfl, by kernel_rfl, by kernel_rfl, by kernel_rfl, by kernel_rfl, by kernel_rfl, by kernel_rfl⟩
theorem hM : Tryz.prog.follows .mixedOrders = true := by kernel_rfl
theorem z1 : (Tryz.prog.info? 1).bind (·.zero) = some (.nilFunc) := by kernel_rfl
theorem z23 : (Tryz.prog.info? 23).bind (·.zero) = some (.nilFunc) := by kernel_rfl
theorem z24 : (Tryz.prog.info? 24).bind (·.zero) = some (.nilFunc) := by kernel_rfl
theorem sl26 : SlT Tryz.prog 26 56 11 176 := slT_of (by kernel_rfl) (by kernel_rfl)
theorem z26 : (Tryz.prog.info? 26).bind (·.zero) = some (.slice none 0 0) := by kernel_rfl
theorem z27 : (Tryz.prog.info? 27).bind (·.zero) = some (.agg #[.string ⟨#[]⟩, .slice none 0 0]) := by kernel_rfl
theorem z28 : (Tryz.prog.info? 28).bind (·.zero) = some (.agg #[.string ⟨#[]⟩, .slice none 0 0]) := by kernel_rfl
theorem bt28 : BuildT Tryz.prog 28 [.string ⟨#[]⟩, .slice none 0 0] [(0, 1), (1, 1)] := buildT_of (fs := (Tryz.prog.underlying 28).elim #[] fun d => match d with | .struct fs => fs | _ => #[]) (by kernel_rfl) (by kernel_rfl) (by kernel_rfl) (by kernel_rfl)
theorem sl31 : SlT Tryz.prog 31 9 1 16 := slT_of (by kernel_rfl) (by kernel_rfl)
theorem z32 : (Tryz.prog.info? 32).bind (·.zero) = some (.agg #[.string ⟨#[]⟩, .string ⟨#[]⟩, .string ⟨#[]⟩, .string ⟨#[]⟩, .string ⟨#[]⟩, .slice none 0 0, .slice none 0 0, .int .i64 0, .bool false]) := by kernel_rfl
theorem z33 : (Tryz.prog.info? 33).bind (·.zero) = some (.agg #[.string ⟨#[]⟩, .string ⟨#[]⟩, .string ⟨#[]⟩, .string ⟨#[]⟩, .string ⟨#[]⟩, .slice none 0 0, .slice none 0 0, .int .i64 0, .bool false]) := by kernel_rfl
theorem bt33 : BuildT Tryz.prog 33 [.string ⟨#[]⟩, .string ⟨#[]⟩, .string ⟨#[]⟩, .string ⟨#[]⟩, .string ⟨#[]⟩, .slice none 0 0, .slice none 0 0, .int .i64 0, .bool false] [(0, 1), (1, 1), (2, 1), (3, 1), (4, 1), (5, 1), (6, 1), (7, 1), (8, 1)] := buildT_of (fs := (Tryz.prog.underlying 33).elim #[] fun d => match d with | .struct fs => fs | _ => #[]) (by kernel_rfl) (by kernel_rfl) (by kernel_rfl) (by kernel_rfl)
theorem z35 : (Tryz.prog.info? 35).bind (·.zero) = some (.nilFunc) := by kernel_rfl
theorem z36 : (Tryz.prog.info? 36).bind (·.zero) = some (.nilFunc) := by kernel_rfl
theorem sl39 : SlT Tryz.prog 39 31 1 24 := slT_of (by kernel_rfl) (by kernel_rfl)
theorem z41 : (Tryz.prog.info? 41).bind (·.zero) = some (.nilFunc) := by kernel_rfl
theorem z44 : (Tryz.prog.info? 44).bind (·.zero) = some (.agg #[.int .u8 0, .string ⟨#[]⟩, .string ⟨#[]⟩, .string ⟨#[]⟩, .string ⟨#[]⟩, .string ⟨#[]⟩, .slice none 0 0, .slice none 0 0, .int .i64 0]) := by kernel_rfl
theorem z45 : (Tryz.prog.info? 45).bind (·.zero) = some (.agg #[.int .u8 0, .string ⟨#[]⟩, .string ⟨#[]⟩, .string ⟨#[]⟩, .string ⟨#[]⟩, .string ⟨#[]⟩, .slice none 0 0, .slice none 0 0, .int .i64 0]) := by kernel_rfl
theorem z46 : (Tryz.prog.info? 46).bind (·.zero) = some (.nilFunc) := by kernel_rfl
theorem z53 : (Tryz.prog.info? 53).bind (·.zero) = some (.nilFunc) := by kernel_rfl
theorem sl54 : SlT Tryz.prog 54 126 3 48 := slT_of (by kernel_rfl) (by kernel_rfl)
theorem z56 : (Tryz.prog.info? 56).bind (·.zero) = some (.agg #[.string ⟨#[]⟩, .string ⟨#[]⟩, .string ⟨#[]⟩, .string ⟨#[]⟩, .string ⟨#[]⟩, .slice none 0 0, .slice none 0 0, .int .i64 0, .bool false, .int .i64 0, .slice none 0 0]) := by kernel_rfl
theorem bt56 : BuildT Tryz.prog 56 [.string ⟨#[]⟩, .string ⟨#[]⟩, .string ⟨#[]⟩, .string ⟨#[]⟩, .string ⟨#[]⟩, .slice none 0 0, .slice none 0 0, .int .i64 0, .bool false, .int .i64 0, .slice none 0 0] [(0, 9), (9, 1), (10, 1)] := buildT_of (fs := (Tryz.prog.underlying 56).elim #[] fun d => match d with | .struct fs => fs | _ => #[]) (by kernel_rfl) (by kernel_rfl) (by kernel_rfl) (by kernel_rfl)
theorem z57 : (Tryz.prog.info? 57).bind (·.zero) = some (.nilFunc) := by kernel_rfl
theorem z63 : (Tryz.prog.info? 63).bind (·.zero) = some (.nilFunc) := by kernel_rfl
theorem z64 : (Tryz.prog.info? 64).bind (·.zero) = some (.nilFunc) := by kernel_rfl
theorem z73 : (Tryz.prog.info? 73).bind (·.zero) = some (.agg #[.int .i64 0, .int .i64 0, .int .i64 0, .string ⟨#[]⟩, .string ⟨#[]⟩, .string ⟨#[]⟩, .string ⟨#[]⟩, .string ⟨#[]⟩, .string ⟨#[]⟩, .string ⟨#[]⟩, .string ⟨#[]⟩, .slice none 0 0, .slice none 0 0, .int .i64 0, .bool false]) := by kernel_rfl
theorem bt73 : BuildT Tryz.prog 73 [.int .i64 0, .int .i64 0, .int .i64 0, .string ⟨#[]⟩, .string ⟨#[]⟩, .string ⟨#[]⟩, .string ⟨#[]⟩, .string ⟨#[]⟩, .string ⟨#[]⟩, .string ⟨#[]⟩, .string ⟨#[]⟩, .slice none 0 0, .slice none 0 0, .int .i64 0, .bool false] [(0, 1), (1, 1), (2, 1), (3, 1), (4, 1), (5, 1), (6, 9)] := buildT_of (fs := (Tryz.prog.underlying 73).elim #[] fun d => match d with | .struct fs => fs | _ => #[]) (by kernel_rfl) (by kernel_rfl) (by kernel_rfl) (by kernel_rfl)
theorem z76 : (Tryz.prog.info? 76).bind (·.zero) = some (.pointer none) := by kernel_rfl
theorem mp78 : MpT Tryz.prog 78 76 (.pointer none) := ⟨9, by kernel_rfl, by kernel_rfl, by kernel_rfl⟩
theorem bt80 : BuildT Tryz.prog 80 [.string ⟨#[]⟩, .map none] [(0, 1), (1, 1)] := buildT_of (fs := (Tryz.prog.underlying 80).elim #[] fun d => match d with | .struct fs => fs | _ => #[]) (by kernel_rfl) (by kernel_rfl) (by kernel_rfl) (by kernel_rfl)
theorem sl82 : SlT Tryz.prog 82 139 4 48 := slT_of (by kernel_rfl) (by kernel_rfl)
theorem z84 : (Tryz.prog.info? 84).bind (·.zero) = some (.agg #[.int .i64 0, .string ⟨#[]⟩, .slice none 0 0]) := by kernel_rfl
theorem bt84 : BuildT Tryz.prog 84 [.int .i64 0, .string ⟨#[]⟩, .slice none 0 0] [(0, 1), (1, 1), (2, 1)] := buildT_of (fs := (Tryz.prog.underlying 84).elim #[] fun d => match d with | .struct fs => fs | _ => #[]) (by kernel_rfl) (by kernel_rfl) (by kernel_rfl) (by kernel_rfl)
theorem z87 : (Tryz.prog.info? 87).bind (·.zero) = some (.agg #[.string ⟨#[]⟩, .string ⟨#[]⟩, .string ⟨#[]⟩, .string ⟨#[]⟩, .string ⟨#[]⟩, .slice none 0 0, .slice none 0 0, .int .i64 0, .bool false, .int .i64 0, .int .i64 0, .string ⟨#[]⟩, .slice none 0 0, .int .i64 0, .string ⟨#[]⟩, .slice none 0 0, .int .i64 0, .string ⟨#[]⟩, .slice none 0 0]) := by kernel_rfl
theorem bt87 : BuildT Tryz.prog 87 [.string ⟨#[]⟩, .string ⟨#[]⟩, .string ⟨#[]⟩, .string ⟨#[]⟩, .string ⟨#[]⟩, .slice none 0 0, .slice none 0 0, .int .i64 0, .bool false, .int .i64 0, .int .i64 0, .string ⟨#[]⟩, .slice none 0 0, .int .i64 0, .string ⟨#[]⟩, .slice none 0 0, .int .i64 0, .string ⟨#[]⟩, .slice none 0 0] [(0, 9), (9, 1), (10, 9)] := buildT_of (fs := (Tryz.prog.underlying 87).elim #[] fun d => match d with | .struct fs => fs | _ => #[]) (by kernel_rfl) (by kernel_rfl) (by kernel_rfl) (by kernel_rfl)
theorem sl98 : SlT Tryz.prog 98 96 1 8 := slT_of (by kernel_rfl) (by kernel_rfl)
theorem sl103 : SlT Tryz.prog 103 33 9 144 := slT_of (by kernel_rfl) (by kernel_rfl)
theorem mp111 : MpT Tryz.prog 111 4 (.bool false) := ⟨9, by kernel_rfl, by kernel_rfl, by kernel_rfl⟩
theorem sl121 : SlT Tryz.prog 121 129 4 48 := slT_of (by kernel_rfl) (by kernel_rfl)
theorem z126 : (Tryz.prog.info? 126).bind (·.zero) = some (.agg #[.int .i64 0, .string ⟨#[]⟩, .slice none 0 0]) := by kernel_rfl
theorem bt126 : BuildT Tryz.prog 126 [.int .i64 0, .string ⟨#[]⟩, .slice none 0 0] [(0, 1), (1, 1), (2, 1)] := buildT_of (fs := (Tryz.prog.underlying 126).elim #[] fun d => match d with | .struct fs => fs | _ => #[]) (by kernel_rfl) (by kernel_rfl) (by kernel_rfl) (by kernel_rfl)
theorem bt129 : BuildT Tryz.prog 129 [.string ⟨#[]⟩, .int .i64 0, .int .i64 0, .string ⟨#[]⟩] [(0, 1), (1, 1), (2, 1), (3, 1)] := buildT_of (fs := (Tryz.prog.underlying 129).elim #[] fun d => match d with | .struct fs => fs | _ => #[]) (by kernel_rfl) (by kernel_rfl) (by kernel_rfl) (by kernel_rfl)
theorem sl132 : SlT Tryz.prog 132 137 1 8 := slT_of (by kernel_rfl) (by kernel_rfl)
theorem z132 : (Tryz.prog.info? 132).bind (·.zero) = some (.slice none 0 0) := by kernel_rfl
theorem bt136 : BuildT Tryz.prog 136 [.string ⟨#[]⟩, .string ⟨#[]⟩, .int .i64 0, .int .i64 0, .bool false, .int .i64 0, .string ⟨#[]⟩, .bool false] [(0, 1), (1, 1), (2, 1), (3, 1), (4, 1), (5, 1), (6, 1), (7, 1)] := buildT_of (fs := (Tryz.prog.underlying 136).elim #[] fun d => match d with | .struct fs => fs | _ => #[]) (by kernel_rfl) (by kernel_rfl) (by kernel_rfl) (by kernel_rfl)
theorem bt139 : BuildT Tryz.prog 139 [.string ⟨#[]⟩, .string ⟨#[]⟩, .int .i64 0, .int .i64 0] [(0, 1), (1, 1), (2, 1), (3, 1)] := buildT_of (fs := (Tryz.prog.underlying 139).elim #[] fun d => match d with | .struct fs => fs | _ => #[]) (by kernel_rfl) (by kernel_rfl) (by kernel_rfl) (by kernel_rfl)
theorem sl149 : SlT Tryz.prog 149 3 1 8 := slT_of (by kernel_rfl) (by kernel_rfl)
theorem z168 : (Tryz.prog.info? 168).bind (·.zero) = some (.nilFunc) := by kernel_rfl
theorem z169 : (Tryz.prog.info? 169).bind (·.zero) = some (.agg #[.nilFunc, .int .i64 0]) := by kernel_rfl
theorem bt169 : BuildT Tryz.prog 169 [.nilFunc, .int .i64 0] [(0, 1), (1, 1)] := buildT_of (fs := (Tryz.prog.underlying 169).elim #[] fun d => match d with | .struct fs => fs | _ => #[]) (by kernel_rfl) (by kernel_rfl) (by kernel_rfl) (by kernel_rfl)
theorem sl172 : SlT Tryz.prog 172 169 2 16 := slT_of (by kernel_rfl) (by kernel_rfl)
theorem z189 : (Tryz.prog.info? 189).bind (·.zero) = some (.agg #[.string ⟨#[]⟩, .bool false, .bool false, .int .i64 0]) := by kernel_rfl
theorem bt189 : BuildT Tryz.prog 189 [.string ⟨#[]⟩, .bool false, .bool false, .int .i64 0] [(0, 1), (1, 1), (2, 1), (3, 1)] := buildT_of (fs := (Tryz.prog.underlying 189).elim #[] fun d => match d with | .struct fs => fs | _ => #[]) (by kernel_rfl) (by kernel_rfl) (by kernel_rfl) (by kernel_rfl)
end Go.Proofs.YtnglkhnfmbnfeaaGreat
