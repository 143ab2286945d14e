/- A small walking kit of our own: frames as lists of known slots, an evaluator for operations that touch no memory, and one law for each kind of step. No program is named here. -/
import Derived.WalkKit
import Derived.Deep.Quiet
import Derived.Lib.Strings
set_option linter.unusedVariables false
set_option linter.unusedSimpArgs false
set_option linter.unusedSectionVars false
set_option linter.unnecessarySimpa false
namespace Go.SK
open Go

abbrev Fr := List (Nat × Value)

def lk : Fr → Nat → Option Value
  | [], _ => none
  | (j, v) :: r, i => match Nat.beq i j with
    | true => some v
    | false => lk r i

/-- What is known of a frame: its size, no deferred calls, and the listed slots. -/
def Kn (n : Nat) (fr : Fr) (a : Act) : Prop := a.tmps.size = n ∧ a.defers = [] ∧ ∀ i v, lk fr i = some v → i < n → a.tmps[i]? = some v

def ev (n : Nat) (fr : Fr) : Operand → Option Value
  | .tmp t => match Nat.blt t n with
    | true => lk fr t
    | false => none
  | .const v => some v
  | .global g => some (.pointer (some ⟨g, 0, none⟩))
  | .func f => some (.func (.func f) #[] #[])

theorem ev_sound {n : Nat} {fr : Fr} {a : Act} (h : Kn n fr a) {x : Operand} {v : Value} (he : ev n fr x = some v) : a.eval x = v := by
  cases x with
  | tmp t =>
    simp only [ev] at he
    cases hb : Nat.blt t n with
    | false => simp [hb] at he
    | true =>
      simp only [hb] at he
      have ht : t < n := by simpa [Nat.blt_eq] using hb
      have := h.2.2 t v he ht
      simp [Act.eval, Array.getD_eq_getD_getElem?, this]
  | const u => simpa [ev, Act.eval] using he
  | global g => simpa [ev, Act.eval] using he
  | func f => simpa [ev, Act.eval] using he

theorem Kn.put {n : Nat} {fr : Fr} {a : Act} (h : Kn n fr a) (d : Nat) (v : Value) : Kn n ((d, v) :: fr) (a.put (some d) v) := by
  refine ⟨by simpa [Act.put] using h.1, by simpa [Act.put] using h.2.1, ?_⟩
  intro i u hl hi
  simp only [lk] at hl
  simp only [Act.put]
  cases hb : Nat.beq i d with
  | true =>
    simp only [hb] at hl
    have e : i = d := Nat.eq_of_beq_eq_true hb
    subst e
    simp only [Option.some.injEq] at hl
    subst hl
    simp [h.1, hi]
  | false =>
    simp only [hb] at hl
    have e : i ≠ d := Nat.ne_of_beq_eq_false hb
    rw [Array.getElem?_setIfInBounds_ne (Ne.symm e)]
    exact h.2.2 i u hl hi

/-- A slot's value written in another way. -/
theorem Kn.also {n : Nat} {fr : Fr} {a : Act} (h : Kn n fr a) {d : Nat} {v : Value} (hd : lk fr d = some v) : Kn n ((d, v) :: fr) a := by
  refine ⟨h.1, h.2.1, ?_⟩
  intro i u hl hi
  simp only [lk] at hl
  cases hb : Nat.beq i d with
  | true =>
    simp only [hb] at hl
    have e : i = d := Nat.eq_of_beq_eq_true hb
    subst e
    simp only [Option.some.injEq] at hl
    subst hl
    exact h.2.2 i _ hd hi
  | false =>
    simp only [hb] at hl
    exact h.2.2 i u hl hi

/-- Every slot of the list is known, by the other list. -/
def Sub (fr fr' : Fr) : Prop := ∀ i v, lk fr i = some v → lk fr' i = some v
def subB : Fr → Fr → Prop
  | [], _ => True
  | (j, v) :: r, fr' => lk fr' j = some v ∧ subB r fr'
theorem sub_of : ∀ {fr fr' : Fr}, subB fr fr' → Sub fr fr'
  | [], _, _ => fun i v h => by simp [lk] at h
  | (j, u) :: r, fr', h => fun i v hl => by
    simp only [lk] at hl
    cases hb : Nat.beq i j with
    | true =>
      simp only [hb] at hl
      have e : i = j := Nat.eq_of_beq_eq_true hb
      subst e
      rw [← hl]; exact h.1
    | false =>
      simp only [hb] at hl
      exact sub_of h.2 i v hl
theorem Kn.sub {n : Nat} {fr fr' : Fr} {a : Act} (h : Kn n fr' a) (hs : Sub fr fr') : Kn n fr a := ⟨h.1, h.2.1, fun i v hl hi => h.2.2 i v (hs i v hl) hi⟩

def evs (n : Nat) (fr : Fr) : List Operand → Option (List Value)
  | [] => some []
  | x :: r => match ev n fr x, evs n fr r with
    | some v, some l => some (v :: l)
    | _, _ => none
theorem evs_sound {n : Nat} {fr : Fr} {a : Act} (h : Kn n fr a) : ∀ {xs : List Operand} {vs : List Value}, evs n fr xs = some vs → xs.map a.eval = vs
  | [], vs, he => by simpa [evs] using he
  | x :: r, vs, he => by
    simp only [evs] at he
    cases h1 : ev n fr x with
    | none => simp [h1] at he
    | some v =>
      cases h2 : evs n fr r with
      | none => simp [h1, h2] at he
      | some l =>
        simp only [h1, h2, Option.some.injEq] at he
        subst he
        simp [ev_sound h h1, evs_sound h h2]

/-! ### What is known of types: a table, held against the program by one closed fact. -/
structure Tab where
  /-- struct, field, the field's place, its cells, is it a struct or an array -/
  flds : List (Nat × Nat × Nat × Nat × Bool)
  /-- slice type, cells of an element -/
  sls : List (Nat × Nat)
  /-- array type, length, cells of an element -/
  arrs : List (Nat × Nat × Nat)
  /-- type, is it a struct or an array, its cells -/
  kinds : List (Nat × Bool × Nat)
  strs : List Nat
  ptrs : List Nat
  ints : List (Nat × IntKind)
  fns : List Nat

def fld (T : Tab) (s f : Nat) : Option (Nat × Nat × Bool) := go T.flds
where go : List (Nat × Nat × Nat × Nat × Bool) → Option (Nat × Nat × Bool)
  | [] => none
  | (s', f', r) :: l => match Nat.beq s s', Nat.beq f f' with
    | true, true => some r
    | _, _ => go l
def look {α : Type} : List (Nat × α) → Nat → Option α
  | [], _ => none
  | (j, v) :: r, i => match Nat.beq i j with
    | true => some v
    | false => look r i
def memN : List Nat → Nat → Bool
  | [], _ => false
  | j :: r, i => match Nat.beq i j with
    | true => true
    | false => memN r i

def fieldFits (P : Program) (s f off size : Nat) (agg : Bool) : Bool :=
  match P.underlying s with
  | some (.struct fs) => match fs[f]? with
    | some fd => fd.offset == off && size != 0 && (match P.info? fd.type with | some i => i.size == size | none => false) &&
        (match P.underlying fd.type with | some (.struct _) | some (.array _ _) => agg | some _ => !agg | none => false)
    | none => false
  | _ => false
structure TabOk (P : Program) (T : Tab) : Prop where
  flds : T.flds.all (fun (s, f, off, size, agg) => fieldFits P s f off size agg) = true
  sls : T.sls.all (fun (t, size) => match P.underlying t with | some (.slice e) => (match P.info? e with | some i => i.size == size | none => false) | _ => false) = true
  arrs : T.arrs.all (fun (t, n, size) => match P.underlying t with | some (.array m e) => m == n && (match P.info? e with | some i => i.size == size | none => false) | _ => false) = true
  kinds : T.kinds.all (fun (t, agg, size) => (match P.info? t with | some i => i.size == size | none => false) && (match P.underlying t with | some (.struct _) | some (.array _ _) => agg | some _ => !agg | none => false)) = true
  strs : T.strs.all (fun t => match P.underlying t with | some .string => true | _ => false) = true
  ptrs : T.ptrs.all (fun t => match P.underlying t with | some (.pointer _) => true | _ => false) = true
  ints : T.ints.all (fun (t, k) => match P.underlying t with | some (.int k') => k' == k | _ => false) = true
  fns : T.fns.all (fun f => match P.funcs[f]? with | some fn => fn.body.isSome && !(fn.name == "runtime.NumGoroutine") | none => false) = true

theorem look_mem {α : Type} : ∀ {l : List (Nat × α)} {i : Nat} {v : α}, look l i = some v → (i, v) ∈ l
  | (j, u) :: r, i, v, h => by
    simp only [look] at h
    cases hb : Nat.beq i j with
    | true =>
      simp only [hb, Option.some.injEq] at h
      have := Nat.eq_of_beq_eq_true hb
      subst this; subst h
      exact List.mem_cons_self
    | false => simp only [hb] at h; exact List.mem_cons_of_mem _ (look_mem h)
theorem memN_mem : ∀ {l : List Nat} {i : Nat}, memN l i = true → i ∈ l
  | j :: r, i, h => by
    simp only [memN] at h
    cases hb : Nat.beq i j with
    | true => have := Nat.eq_of_beq_eq_true hb; subst this; exact List.mem_cons_self
    | false => simp only [hb] at h; exact List.mem_cons_of_mem _ (memN_mem h)
theorem fld_mem {s f : Nat} : ∀ {l : List (Nat × Nat × Nat × Nat × Bool)} {r : Nat × Nat × Bool}, fld.go s f l = some r → (s, f, r) ∈ l
  | (s', f', r') :: l, r, h => by
    simp only [fld.go] at h
    cases h1 : Nat.beq s s' <;> cases h2 : Nat.beq f f' <;> simp only [h1, h2] at h
    case true.true =>
      have e1 := Nat.eq_of_beq_eq_true h1
      have e2 := Nat.eq_of_beq_eq_true h2
      simp only [Option.some.injEq] at h
      subst e1; subst e2; subst h
      exact List.mem_cons_self
    all_goals exact List.mem_cons_of_mem _ (fld_mem h)

section
variable {P : Program} {T : Tab}
theorem TabOk.fld (h : TabOk P T) {s f off size : Nat} {agg : Bool} (hf : fld T s f = some (off, size, agg)) : fieldFits P s f off size agg = true :=
  List.all_eq_true.1 h.flds _ (fld_mem hf)
theorem TabOk.sl (h : TabOk P T) {t size : Nat} (hf : look T.sls t = some size) : ∃ e i, P.underlying t = some (.slice e) ∧ P.info? e = some i ∧ i.size = size := by
  have := List.all_eq_true.1 h.sls _ (look_mem hf)
  try dsimp only at this
  split at this
  · rename_i e he
    split at this
    · rename_i i hi; exact ⟨e, i, he, hi, by simpa using this⟩
    · cases this
  · cases this
theorem TabOk.arr (h : TabOk P T) {t n size : Nat} (hf : look T.arrs t = some (n, size)) : ∃ e i, P.underlying t = some (.array n e) ∧ P.info? e = some i ∧ i.size = size := by
  have := List.all_eq_true.1 h.arrs _ (look_mem hf)
  try dsimp only at this
  split at this
  · rename_i m e he
    simp only [Bool.and_eq_true, beq_iff_eq] at this
    obtain ⟨rfl, this⟩ := this
    split at this
    · rename_i i hi; exact ⟨e, i, he, hi, by simpa using this⟩
    · cases this
  · cases this
theorem TabOk.kind (h : TabOk P T) {t size : Nat} {agg : Bool} (hf : look T.kinds t = some (agg, size)) :
    ∃ i d, P.info? t = some i ∧ i.size = size ∧ P.underlying t = some d ∧ (match d with | .struct _ | .array _ _ => agg | _ => !agg) = true := by
  have := List.all_eq_true.1 h.kinds _ (look_mem hf)
  simp only [Bool.and_eq_true] at this
  obtain ⟨h1, h2⟩ := this
  split at h1
  · rename_i i hi
    split at h2
    · rename_i fs he; exact ⟨i, _, hi, by simpa using h1, he, h2⟩
    · rename_i m e he; exact ⟨i, _, hi, by simpa using h1, he, h2⟩
    · rename_i d hn1 hn2 he
      refine ⟨i, d, hi, by simpa using h1, he, ?_⟩
      cases d <;> first | exact h2 | (exfalso; exact hn1 _ rfl) | (exfalso; exact hn2 _ _ rfl)
    · cases h2
  · cases h1
theorem TabOk.str (h : TabOk P T) {t : Nat} (hf : memN T.strs t = true) : P.underlying t = some .string := by
  have := List.all_eq_true.1 h.strs _ (memN_mem hf)
  try dsimp only at this
  split at this
  · assumption
  · cases this
theorem TabOk.ptr (h : TabOk P T) {t : Nat} (hf : memN T.ptrs t = true) : ∃ e, P.underlying t = some (.pointer e) := by
  have := List.all_eq_true.1 h.ptrs _ (memN_mem hf)
  try dsimp only at this
  split at this
  · rename_i e he; exact ⟨e, he⟩
  · cases this
theorem TabOk.int (h : TabOk P T) {t : Nat} {k : IntKind} (hf : look T.ints t = some k) : P.underlying t = some (.int k) := by
  have := List.all_eq_true.1 h.ints _ (look_mem hf)
  try dsimp only at this
  split at this
  · rename_i k' he; rw [he]; simp at this; rw [this]
  · cases this
theorem TabOk.fn (h : TabOk P T) {f : Nat} (hf : memN T.fns f = true) : ∃ fn, P.funcs[f]? = some fn ∧ fn.body.isSome = true ∧ (fn.name == "runtime.NumGoroutine") = false := by
  have := List.all_eq_true.1 h.fns _ (memN_mem hf)
  try dsimp only at this
  split at this
  · rename_i fn he; simp at this; exact ⟨fn, he, by simp [this.1], by simpa using this.2⟩
  · cases this
end

/-! ### Operations that touch no memory. -/
def lset : List Value → Nat → Value → Option (List Value)
  | [], _, _ => none
  | _ :: r, 0, v => some (v :: r)
  | a :: r, i + 1, v => match lset r i v with
    | some r' => some (a :: r')
    | none => none
def ltake : Nat → List Value → Option (List Value)
  | 0, _ => some []
  | _ + 1, [] => none
  | k + 1, a :: r => match ltake k r with
    | some r' => some (a :: r')
    | none => none
def ldrop : Nat → List Value → Option (List Value)
  | 0, l => some l
  | _ + 1, [] => none
  | k + 1, _ :: r => ldrop k r
theorem ltake_eq : ∀ {k : Nat} {l r : List Value}, ltake k l = some r → l.take k = r ∧ k ≤ l.length
  | 0, l, r, h => by simp [ltake] at h; simp [← h]
  | k + 1, [], r, h => by simp [ltake] at h
  | k + 1, a :: l, r, h => by
    simp only [ltake] at h
    cases hl : ltake k l with
    | none => simp [hl] at h
    | some r' =>
      simp only [hl, Option.some.injEq] at h
      obtain ⟨h1, h2⟩ := ltake_eq hl
      subst h
      simp [h1, h2]
theorem ldrop_eq : ∀ {k : Nat} {l r : List Value}, ldrop k l = some r → l.drop k = r
  | 0, l, r, h => by simp [ldrop] at h; simp [h]
  | k + 1, [], r, h => by simp [ldrop] at h
  | k + 1, a :: l, r, h => by simpa using ldrop_eq (k := k) (by simpa [ldrop] using h)

def sameKind (k k' : IntKind) : Bool := decide (k = k')
def bin (op : BinOp) (x y : Value) : Option Value :=
  match x, y with
  | .int k a, .int k' b => match sameKind k k' with
    | true => match op with
      | .add => some (.int k (k.wrap (a + b)))
      | .sub => some (.int k (k.wrap (a - b)))
      | .mul => some (.int k (k.wrap (a * b)))
      | .eql => some (.bool (decide (a = b)))
      | .neq => some (.bool (decide (a ≠ b)))
      | .lss => some (.bool (decide (a < b)))
      | .leq => some (.bool (decide (a ≤ b)))
      | .gtr => some (.bool (decide (a > b)))
      | .geq => some (.bool (decide (a ≥ b)))
      | _ => none
    | false => none
  | .string s, .string t => match op with
    | .eql => some (.bool (decide (s = t)))
    | .neq => some (.bool (decide (s ≠ t)))
    | .lss => some (.bool (Op.bytesLess s.toList t.toList))
    | _ => none
  | _, _ => none

/-- What an operation that touches no memory yields. -/
def pv (T : Tab) (n : Nat) (fr : Fr) : Op → Option Value
  | .move x => ev n fr x
  | .assign x => ev n fr x
  | .pick c a b => match ev n fr c with
    | some (.bool true) => ev n fr a
    | some (.bool false) => ev n fr b
    | _ => none
  | .nilCheck x => match ev n fr x with
    | some (.pointer (some a)) => some (.pointer (some a))
    | some (.func (.func f) l c) => some (.func (.func f) l c)
    | _ => none
  | .binOp op _ x y _ => match ev n fr x, ev n fr y with
    | some u, some v => bin op u v
    | _, _ => none
  | .unOp op _ x => match op, ev n fr x with
    | .not, some (.bool b) => some (.bool !b)
    | _, _ => none
  | .fieldAddr s x f => match fld T s f, ev n fr x with
    | some (off, _, _), some (.pointer (some ⟨b, o, none⟩)) => some (.pointer (some ⟨b, o + off, none⟩))
    | _, _ => none
  | .field s x f => match fld T s f, ev n fr x with
    | some (off, size, true), some (.agg ⟨l⟩) => match ldrop off l with
      | some l' => match ltake size l' with
        | some l'' => some (.agg ⟨l''⟩)
        | none => none
      | none => none
    | some (off, _, false), some (.agg ⟨l⟩) => match ldrop off l with
      | some (v :: _) => some v
      | _ => none
    | _, _ => none
  | .extract x i => match ev n fr x with
    | some (.tuple ⟨l⟩) => match ldrop i l with
      | some (v :: _) => some v
      | _ => none
    | _ => none
  | .makeFunc fn first captured => match evs n fr first.toList, evs n fr captured.toList with
    | some a, some b => some (.func fn ⟨a⟩ ⟨b⟩)
    | _, _ => none
  | .call ⟨.builtin .len, xs, ts⟩ => match xs.toList, ts.toList with
    | [x], [t] => match ev n fr x with
      | some (.string s) => match memN T.strs t with
        | true => some (.int .i64 (s.size : Nat))
        | false => none
      | some (.slice _ l _) => match look T.sls t with
        | some _ => some (.int .i64 (l : Nat))
        | none => none
      | _ => none
    | _, _ => none
  | _ => none

theorem bytes_eq {s t : ByteArray} : s.toList = t.toList ↔ s = t := by
  rw [Lib.toList_data, Lib.toList_data]
  exact ⟨fun h => ByteArray.ext (Array.toList_inj.1 h), fun h => by rw [h]⟩
theorem addr_add (b o k : Nat) : (⟨b, o, none⟩ : Addr).add k = ⟨b, o + k, none⟩ := by
  unfold Addr.add; split <;> simp_all

section
variable {P : Program} {T : Tab} {n : Nat} {fr : Fr} {a : Act}
theorem bin_sound {op : BinOp} {t : TypeId} {x y : Operand} {u v r : Value} (h : bin op u v = some r) (w : World) :
    (do eqGuard op t x y u v; binOp op t u v : Sem Value).run P w = .ok r w := by
  unfold bin at h
  split at h
  · rename_i k i k' j
    cases hk : sameKind k k' with
    | false => simp [hk] at h
    | true =>
      have hk' : k = k' := of_decide_eq_true hk
      simp only [hk] at h
      subst hk'
      cases op <;> simp only [Option.some.injEq] at h <;> (try (cases h; done)) <;> subst h <;>
        simp [eqGuard, binOp, Op.intArith, Op.intCmp] <;> first | rfl | (rw [Bool.eq_iff_iff]; simp)
  · rename_i s t'
    cases op <;> simp only [Option.some.injEq] at h <;> (try (cases h; done)) <;> subst h <;>
      simp [eqGuard, binOp, Op.stringOp] <;> (try (rw [Bool.eq_iff_iff]; simp [bytes_eq]))
  · cases h

theorem pv_sound (hT : TabOk P T) (hk : Kn n fr a) {o : Oper} {v : Value} (h : pv T n fr o.op = some v) (w : World) : (execOp a.eval o).run P w = .ok (.value v) w := by
  unfold pv at h
  split at h
  · -- move
    rename_i x ho
    simp [execOp, ho, ev_sound hk h]
  · rename_i x ho
    simp [execOp, ho, ev_sound hk h]
  · rename_i c x y ho
    split at h
    · rename_i hc; simp [execOp, ho, ev_sound hk hc, asBool, ev_sound hk h]
    · rename_i hc; simp [execOp, ho, ev_sound hk hc, asBool, ev_sound hk h]
    · cases h
  · rename_i x ho
    split at h
    · rename_i p hx; simp only [Option.some.injEq] at h; subst h; simp [execOp, ho, ev_sound hk hx]
    · rename_i f l c hx; simp only [Option.some.injEq] at h; subst h; simp [execOp, ho, ev_sound hk hx]
    · cases h
  · rename_i op t x y ty ho
    split at h
    · rename_i u u' hx hy
      have := bin_sound (P := P) (t := t) (x := x) (y := y) h w
      simp only [execOp, ho, ev_sound hk hx, ev_sound hk hy]
      rw [Sem.run_bind, this]; rfl
    · cases h
  · rename_i op t x ho
    split at h
    · rename_i b hx; simp only [Option.some.injEq] at h; subst h; simp [execOp, ho, ev_sound hk hx, Op.unary]
    · cases h
  · -- fieldAddr
    rename_i s x f ho
    split at h
    · rename_i off size agg b o' hf hx
      simp only [Option.some.injEq] at h; subst h
      have hfit := hT.fld hf
      unfold fieldFits at hfit
      split at hfit
      · rename_i fs hu
        split at hfit
        · rename_i fd hfd
          simp only [Bool.and_eq_true, beq_iff_eq, bne_iff_ne, ne_eq] at hfit
          obtain ⟨⟨⟨h1, h2⟩, h3⟩, _⟩ := hfit
          split at h3
          · rename_i i hi
            simp only [beq_iff_eq] at h3
            have hsz : i.size ≠ 0 := by rw [h3]; exact h2
            simp [execOp, ho, ev_sound hk hx, Instr.fieldAt, run_underlying hu, hfd, Instr.sureAddr, fieldPlace, sizeOf, typeInfo, hi, hsz, addr_add, h1]
          · cases h3
        · cases hfit
      · cases hfit
    · cases h
  · -- field
    rename_i s x f ho
    split at h
    · rename_i off size l hf hx
      have hfit := hT.fld hf
      unfold fieldFits at hfit
      split at hfit
      · rename_i fs hu
        split at hfit
        · rename_i fd hfd
          simp only [Bool.and_eq_true, beq_iff_eq, bne_iff_ne, ne_eq] at hfit
          obtain ⟨⟨⟨h1, h2⟩, h3⟩, h4⟩ := hfit
          split at h3
          · rename_i i hi
            simp only [beq_iff_eq] at h3
            cases hl : ldrop off l with
            | none => simp [hl] at h
            | some l' =>
              cases hl2 : ltake size l' with
              | none => simp [hl, hl2] at h
              | some l'' =>
                simp only [hl, hl2, Option.some.injEq] at h; subst h
                have e1 := ldrop_eq hl
                obtain ⟨e2, e3⟩ := ltake_eq hl2
                have hag : (isAgg fd.type).run P w = .ok true w := by
                  unfold isAgg
                  split at h4
                  · rename_i fs' hu'; simp [run_underlying hu']
                  · rename_i m e hu'; simp [run_underlying hu']
                  · cases h4
                  · cases h4
                have hx' : List.take i.size (List.drop fd.offset l) = l'' := by rw [h1, h3, e1, e2]
                simp [execOp, ho, ev_sound hk hx, Instr.field, run_underlying hu, hfd, asAgg, part, hag, sizeOf, typeInfo, hi, hx']
          · cases h3
        · cases hfit
      · cases hfit
    · rename_i off size l hf hx
      have hfit := hT.fld hf
      unfold fieldFits at hfit
      split at hfit
      · rename_i fs hu
        split at hfit
        · rename_i fd hfd
          simp only [Bool.and_eq_true, beq_iff_eq, bne_iff_ne, ne_eq] at hfit
          obtain ⟨⟨⟨h1, h2⟩, h3⟩, h4⟩ := hfit
          split at h
          · rename_i u r hl
            simp only [Option.some.injEq] at h; subst h
            have e1 := ldrop_eq hl
            have hag : (isAgg fd.type).run P w = .ok false w := by
              unfold isAgg
              split at h4
              · cases h4
              · cases h4
              · rename_i d hn1 hn2 hu'
                cases d <;> first | (simp [run_underlying hu']; done) | (exfalso; exact hn1 _ rfl) | (exfalso; exact hn2 _ _ rfl)
              · cases h4
            have hg : l[fd.offset]? = some u := by
              rw [h1]
              have := congrArg (fun z => z[0]?) e1
              simpa [List.getElem?_drop] using this
            simp [execOp, ho, ev_sound hk hx, Instr.field, run_underlying hu, hfd, asAgg, part, hag, hg]
          · cases h
        · cases hfit
      · cases hfit
    · cases h
  · -- extract
    rename_i x i ho
    split at h
    · rename_i l hx
      split at h
      · rename_i u r hl
        simp only [Option.some.injEq] at h; subst h
        have e1 := ldrop_eq hl
        have hg : l[i]? = some u := by
          have := congrArg (fun z => z[0]?) e1
          simpa [List.getElem?_drop] using this
        simp [execOp, ho, ev_sound hk hx, Instr.extract, hg]
      · cases h
    · cases h
  · -- makeFunc
    rename_i fn first cap ho
    split at h
    · rename_i l l' h1 h2
      simp only [Option.some.injEq] at h; subst h
      have e1 := evs_sound hk h1
      have e2 := evs_sound hk h2
      have e1' : first.map a.eval = ⟨l⟩ := Array.toList_inj.1 (by simpa using e1)
      have e2' : cap.map a.eval = ⟨l'⟩ := Array.toList_inj.1 (by simpa using e2)
      simp [execOp, ho, Instr.makeFunc, e1', e2']
    · cases h
  · -- len
    rename_i xs ts ho
    split at h
    · rename_i x t hxs hts
      have e1 : xs = #[x] := by rw [← Array.toList_inj]; exact hxs
      have e2 : ts = #[t] := by rw [← Array.toList_inj]; exact hts
      subst e1; subst e2
      split at h
      · rename_i s hx
        split at h
        · rename_i hs
          simp only [Option.some.injEq] at h; subst h
          simp [execOp, ho, resolve, invoke, builtin, Builtin.len_, ev_sound hk hx, run_underlying (hT.str hs), goInt]
        · cases h
      · rename_i b l c hx
        split at h
        · rename_i size hs
          obtain ⟨e, i, hu, _⟩ := hT.sl hs
          simp only [Option.some.injEq] at h; subst h
          simp [execOp, ho, resolve, invoke, builtin, Builtin.len_, ev_sound hk hx, run_underlying hu, goInt]
        · cases h
      · cases h
    · cases h
  · cases h
end

/-! ### The goals of a walk, and their laws. -/
def CW (P : Program) (c : Code) (Q : Exit → Act → World → Prop) (n : Nat) (fr : Fr) (w : World) : Prop := ∀ a, Kn n fr a → c.wp P Q a w
def LW (P : Program) (ops : Array Oper) (Q : Exit → Act → World → Prop) (l : List Oper) (n : Nat) (fr : Fr) (w : World) : Prop := ∀ a, Kn n fr a → wpList P ops Q l a w
def QW (Q : Exit → Act → World → Prop) (e : Exit) (n : Nat) (fr : Fr) (w : World) : Prop := ∀ a, Kn n fr a → Q e a w

/-- A call that returns. -/
def Ret (P : Program) (f : FuncId) (args : List Value) (w : World) (R : Value → World → Prop) : Prop :=
  Calls P f ⟨args⟩ w fun e w' => ∃ v, e = .returned v ∧ R v w'

theorem Ret.mono {P : Program} {f : FuncId} {args : List Value} {w : World} {R R' : Value → World → Prop} (h : Ret P f args w R) (hr : ∀ v w', R v w' → R' v w') : Ret P f args w R' :=
  Calls.mono h fun _ _ ⟨v, e, r⟩ => ⟨v, e, hr _ _ r⟩

section
variable {P : Program} {T : Tab} {n : Nat} {fr : Fr} {w : World} {Q Q' : Exit → Act → World → Prop} {ops : Array Oper} {rest : List Oper}

theorem cw_sub {c : Code} {fr' : Fr} (hs : subB fr' fr) (h : CW P c Q n fr' w) : CW P c Q n fr w := fun a hk => h a (hk.sub (sub_of hs))
theorem qw_sub {e : Exit} {fr' : Fr} (hs : subB fr' fr) (h : QW Q e n fr' w) : QW Q e n fr w := fun a hk => h a (hk.sub (sub_of hs))

theorem cw_seq {x y : Code} (h : CW P x (Exit.then (fun a w => y.wp P Q a w) Q) n fr w) : CW P (.seq x y) Q n fr w := fun a hk => wp_seq (h a hk)
theorem cw_skip (h : QW Q .normal n fr w) : CW P .skip Q n fr w := fun a hk => wp_skip (h a hk)
theorem cw_ret (h : QW Q .ret n fr w) : CW P .ret Q n fr w := fun a hk => wp_ret (h a hk)
theorem cw_exit {id : Nat} (h : QW Q (.exit id) n fr w) : CW P (.exit id) Q n fr w := fun a hk => wp_exit (h a hk)
theorem cw_block {id : Nat} {c : Code} (h : CW P c (Exit.inBlock id Q) n fr w) : CW P (.block id c) Q n fr w := fun a hk => wp_block (h a hk)
theorem cw_region {id : Nat} {l : List Oper} (h : LW P l.toArray Q l n fr w) : CW P (.region id l.toArray false) Q n fr w := fun a hk => wp_region_lit (h a hk)
theorem cw_cond {c : Operand} {x y : Code} {b : Bool} (hc : ev n fr c = some (.bool b)) (ht : b = true → CW P x Q n fr w) (hf : b = false → CW P y Q n fr w) : CW P (.cond c x y) Q n fr w :=
  fun a hk => wp_cond_split (ev_sound hk hc) (fun h => ht h a hk) (fun h => hf h a hk)
theorem cw_cond_true {c : Operand} {x y : Code} (hc : ev n fr c = some (.bool true)) (h : CW P x Q n fr w) : CW P (.cond c x y) Q n fr w :=
  fun a hk => wp_cond_true (ev_sound hk hc) (h a hk)
theorem cw_cond_false {c : Operand} {x y : Code} (hc : ev n fr c = some (.bool false)) (h : CW P y Q n fr w) : CW P (.cond c x y) Q n fr w :=
  fun a hk => wp_cond_false (ev_sound hk hc) (h a hk)
theorem cw_cond_t {c : Operand} {x y : Code} {b : Bool} (hc : ev n fr c = some (.bool b)) (hb : b = true) (h : CW P x Q n fr w) : CW P (.cond c x y) Q n fr w := cw_cond hc (fun _ => h) (fun h' => by rw [hb] at h'; cases h')
theorem cw_cond_f {c : Operand} {x y : Code} {b : Bool} (hc : ev n fr c = some (.bool b)) (hb : b = false) (h : CW P y Q n fr w) : CW P (.cond c x y) Q n fr w := cw_cond hc (fun h' => by rw [hb] at h'; cases h') (fun _ => h)
theorem cw_cond_is {c : Operand} {x y : Code} {b : Bool} (b' : Bool) (hb : b = b') (hc : ev n fr c = some (.bool b)) (h : CW P (if b' then x else y) Q n fr w) : CW P (.cond c x y) Q n fr w := by
  subst hb
  exact fun a hk => wp_cond (ev_sound hk hc) (by have := h a hk; cases b <;> exact this)

theorem qw_then {y : Code} (h : CW P y Q n fr w) : QW (Exit.then (fun a w => y.wp P Q a w) Q') .normal n fr w := h
theorem qw_then_k {K : Act → World → Prop} (h : ∀ a, Kn n fr a → K a w) : QW (Exit.then K Q) .normal n fr w := h
theorem qw_then_ret {K : Act → World → Prop} (h : QW Q .ret n fr w) : QW (Exit.then K Q) .ret n fr w := h
theorem qw_then_exit {K : Act → World → Prop} {id : Nat} (h : QW Q (.exit id) n fr w) : QW (Exit.then K Q) (.exit id) n fr w := h
theorem qw_block {id : Nat} (h : QW Q .normal n fr w) : QW (Exit.inBlock id Q) .normal n fr w := h
theorem qw_block_ret {id : Nat} (h : QW Q .ret n fr w) : QW (Exit.inBlock id Q) .ret n fr w := h
theorem qw_block_exit {id : Nat} (h : QW Q .normal n fr w) : QW (Exit.inBlock id Q) (.exit id) n fr w := fun a hk => by
  show (if id = id then Q .normal a w else _)
  rw [if_pos rfl]; exact h a hk
theorem qw_block_other {id id' : Nat} (hne : Nat.beq id' id = false) (h : QW Q (.exit id') n fr w) : QW (Exit.inBlock id Q) (.exit id') n fr w := fun a hk => by
  show (if id' = id then Q .normal a w else _)
  rw [if_neg (Nat.ne_of_beq_eq_false hne)]; exact h a hk

/-- A loop: what is known at its head, by a ghost state. -/
theorem cw_loop {α : Type} {c : Code} (F : α → Fr) (I : α → World → Prop) (μ : α → Nat) (x0 : α) (hs : subB (F x0) fr) (h0 : I x0 w)
    (round : ∀ x w', I x w' → CW P c (Exit.then (fun a w2 => ∃ y, Kn n (F y) a ∧ I y w2 ∧ μ y < μ x) Q) n (F x) w') : CW P (.loop c) Q n fr w := by
  intro a hk
  have key : ∀ (m : Nat) (x : α) (a : Act) (w : World), μ x = m → Kn n (F x) a → I x w → ∀ (b : Frame) (k : List Item) (cs : List Frame),
      ∃ e a' w', Q e a' w' ∧ Arrives P (lone (b.at a (.code c :: .inLoop c :: k)) cs w) b k cs e a' w' := by
    intro m
    induction m using Nat.strongRecOn with
    | _ m ih =>
      intro x a w hm hk hI b k cs
      obtain ⟨e, a₁, w₁, hq, harr⟩ := round x w hI a hk b (.inLoop c :: k) cs
      cases e with
      | normal =>
        obtain ⟨y, hk1, hI1, hlt⟩ := hq
        obtain ⟨e₂, a₂, w₂, hq₂, harr₂⟩ := ih (μ y) (hm ▸ hlt) y a₁ w₁ rfl hk1 hI1 b k cs
        exact ⟨e₂, a₂, w₂, hq₂, .of_steps (Steps.trans harr (.one step_inLoop)) harr₂⟩
      | exit id => exact ⟨_, a₁, w₁, hq, .pass (x := .inLoop c) rfl (fun _ _ => .inl (by simp)) harr⟩
      | goto l => exact ⟨_, a₁, w₁, hq, .pass (x := .inLoop c) rfl (fun _ _ => .inl (by simp)) harr⟩
      | ret => exact ⟨_, a₁, w₁, hq, .pass (x := .inLoop c) rfl (fun _ _ => .inl (by simp)) harr⟩
      | panic ch => exact ⟨_, a₁, w₁, hq, .pass (x := .inLoop c) rfl (fun _ _ => .inl (by simp)) harr⟩
      | outgrown => exact ⟨_, a₁, w₁, hq, .pass (x := .inLoop c) rfl (fun _ _ => .inl (by simp)) harr⟩
  intro b k cs
  obtain ⟨e, a', w', hq, harr⟩ := key _ x0 a w rfl (hk.sub (sub_of hs)) h0 b k cs
  exact ⟨e, a', w', hq, .of_steps (.one step_loop) harr⟩
/-- A round's end. -/
theorem qw_round {α : Type} {F : α → Fr} {I : α → World → Prop} {μ : α → Nat} {x : α} (y : α) (hs : subB (F y) fr) (hI : I y w) (hlt : μ y < μ x) :
    QW (Exit.then (fun a w2 => ∃ y, Kn n (F y) a ∧ I y w2 ∧ μ y < μ x) Q) .normal n fr w := fun _ hk => ⟨y, hk.sub (sub_of hs), hI, hlt⟩

theorem lw_nil (h : QW Q .normal n fr w) : LW P ops Q [] n fr w := fun a hk => wpList_nil (h a hk)

/-- One operation without a guard whose run is known. -/
theorem lw_run {o : Oper} (hg : o.guard = none) {d : Nat} (hd : o.dst = some d) {v : Value} {w' : World} (h : ∀ a, Kn n fr a → (execOp a.eval o).run P w = .ok (.value v) w')
    (k : LW P ops Q rest n ((d, v) :: fr) w') : LW P ops Q (o :: rest) n fr w := fun a hk =>
  wpList_plain hg fun K hK => by
    unfold Oper.wp
    rw [h a hk]
    show K (a.put o.dst v) w'
    rw [hd]
    exact hK _ _ (k _ (hk.put d v))
theorem lw_run_skip {o : Oper} (hg : o.guard = none) (hd : o.dst = none) {w' : World} (h : ∀ a, Kn n fr a → (execOp a.eval o).run P w = .ok .skip w')
    (k : LW P ops Q rest n fr w') : LW P ops Q (o :: rest) n fr w := fun a hk =>
  wpList_plain hg fun K hK => by
    unfold Oper.wp
    rw [h a hk]
    show K (a.put o.dst undef) w'
    rw [hd]
    exact hK _ _ (k _ hk)
theorem lw_pure (hT : TabOk P T) {d : Nat} {op : Op} {ty : TypeId} {ps : String} {af : Array Edge} {v : Value} (h : pv T n fr op = some v) (k : LW P ops Q rest n ((d, v) :: fr) w) :
    LW P ops Q ({ dst := some d, op := op, type := ty, pos := ps, after := af, guard := none } :: rest) n fr w :=
  lw_run rfl rfl (fun _ hk => pv_sound hT hk h w) k
/-- A sum that fits. -/
theorem lw_add {d : Nat} {x y : Operand} {t t' : TypeId} {ty : TypeId} {ps : String} {af : Array Edge} {a b : Int} (hx : ev n fr x = some (.int .i64 a)) (hy : ev n fr y = some (.int .i64 b))
    (hl : -9223372036854775808 ≤ a + b) (hu : a + b ≤ 9223372036854775807) (k : LW P ops Q rest n ((d, .int .i64 (a + b)) :: fr) w) :
    LW P ops Q ({ dst := some d, op := .binOp .add t x y t', type := ty, pos := ps, after := af, guard := none } :: rest) n fr w :=
  lw_run rfl rfl (fun a' hk => by simp [execOp, ev_sound hk hx, ev_sound hk hy, eqGuard, binOp, Op.intArith]; exact IntWalk.i64_in _ ⟨hl, hu⟩) k
theorem lw_sub {d : Nat} {x y : Operand} {t t' : TypeId} {ty : TypeId} {ps : String} {af : Array Edge} {a b : Int} (hx : ev n fr x = some (.int .i64 a)) (hy : ev n fr y = some (.int .i64 b))
    (hl : -9223372036854775808 ≤ a - b) (hu : a - b ≤ 9223372036854775807) (k : LW P ops Q rest n ((d, .int .i64 (a - b)) :: fr) w) :
    LW P ops Q ({ dst := some d, op := .binOp .sub t x y t', type := ty, pos := ps, after := af, guard := none } :: rest) n fr w :=
  lw_run rfl rfl (fun a' hk => by simp [execOp, ev_sound hk hx, ev_sound hk hy, eqGuard, binOp, Op.intArith]; exact IntWalk.i64_in _ ⟨hl, hu⟩) k

/-- Guards. -/
def gd (ops : Array Oper) (n : Nat) (fr : Fr) (j : Nat) : Option (Nat × Value) :=
  match ops.toList[j]? with
  | some ⟨some d, _, _, _, _, _⟩ => match Nat.blt d n, lk fr d with
    | true, some v => some (d, v)
    | _, _ => none
  | _ => none
theorem gd_sound {ops : Array Oper} {n : Nat} {fr : Fr} {a : Act} (hk : Kn n fr a) {j d : Nat} {b : Bool} (h : gd ops n fr j = some (d, .bool b)) : yielded ops a.tmps j = some b ∧ lk fr d = some (.bool b) := by
  unfold gd at h
  split at h
  · rename_i d' op ty ps af g ho
    split at h
    · rename_i v hn hl
      simp only [Option.some.injEq, Prod.mk.injEq] at h
      obtain ⟨rfl, rfl⟩ := h
      have hlt : d' < n := by simpa [Nat.blt_eq] using hn
      refine ⟨?_, hl⟩
      have := hk.2.2 d' _ hl hlt
      have ho' : ops[j]? = some ⟨some d', op, ty, ps, af, g⟩ := by simpa using ho
      simp [yielded, ho', this]
    · cases h
  · cases h
theorem lw_guard_skip {j d : Nat} {b want : Bool} {dst : Option Tmp} {op : Op} {ty : TypeId} {ps : String} {af : Array Edge} (h : gd ops n fr j = some (d, .bool b)) (hne : (b == want) = false)
    (k : ∀ a, Kn n fr a → wpList P ops Q rest (a.put dst undef) w) : LW P ops Q ({ dst := dst, op := op, type := ty, pos := ps, after := af, guard := some (j, want) } :: rest) n fr w := fun a hk =>
  wpList_skip (by
    obtain ⟨h1, _⟩ := gd_sound hk h
    unfold Region.wanted
    simp only [h1]
    have : (some b == some want) = (b == want) := rfl
    rw [this]; exact hne) (k a hk)
theorem lw_guard_off {j d : Nat} {b want : Bool} {dst : Nat} {op : Op} {ty : TypeId} {ps : String} {af : Array Edge} (h : gd ops n fr j = some (d, .bool b)) (hne : (b == want) = false)
    (k : LW P ops Q rest n ((dst, undef) :: fr) w) : LW P ops Q ({ dst := some dst, op := op, type := ty, pos := ps, after := af, guard := some (j, want) } :: rest) n fr w :=
  lw_guard_skip h hne fun _ hk => k _ (hk.put dst undef)
theorem lw_guard_on {j d : Nat} {b want : Bool} {dst : Option Tmp} {op : Op} {ty : TypeId} {ps : String} {af : Array Edge} (h : gd ops n fr j = some (d, .bool b)) (he : (b == want) = true)
    (k : LW P ops Q ({ dst := dst, op := op, type := ty, pos := ps, after := af, guard := none } :: rest) n fr w) : LW P ops Q ({ dst := dst, op := op, type := ty, pos := ps, after := af, guard := some (j, want) } :: rest) n fr w := fun a hk => by
  obtain ⟨h1, _⟩ := gd_sound hk h
  have h2 := k a hk
  have hw : Region.wanted { dst := dst, op := op, type := ty, pos := ps, after := af, guard := some (j, want) } (yielded ops a.tmps) = true := by
    unfold Region.wanted
    simp only [h1]
    have : (some b == some want) = (b == want) := rfl
    rw [this]; exact he
  unfold wpList at h2 ⊢
  rw [if_pos (by rfl)] at h2
  rw [if_pos hw]
  exact h2
theorem gd_undef {ops : Array Oper} {n : Nat} {fr : Fr} {a : Act} (hk : Kn n fr a) {j d : Nat} (h : gd ops n fr j = some (d, undef)) : yielded ops a.tmps j = none := by
  unfold gd at h
  split at h
  · rename_i d' op ty ps af g ho
    split at h
    · rename_i v hn hl
      simp only [Option.some.injEq, Prod.mk.injEq] at h
      obtain ⟨rfl, rfl⟩ := h
      have hlt : d' < n := by simpa [Nat.blt_eq] using hn
      have := hk.2.2 d' _ hl hlt
      have ho' : ops[j]? = some ⟨some d', op, ty, ps, af, g⟩ := by simpa using ho
      simp [yielded, ho', this, undef]
    · cases h
  · cases h
/-- A guard that was itself passed over. -/
theorem lw_goff_u {j d : Nat} {want : Bool} {dst : Nat} {op : Op} {ty : TypeId} {ps : String} {af : Array Edge} (h : gd ops n fr j = some (d, undef))
    (k : LW P ops Q rest n ((dst, undef) :: fr) w) : LW P ops Q ({ dst := some dst, op := op, type := ty, pos := ps, after := af, guard := some (j, want) } :: rest) n fr w := fun a hk =>
  wpList_skip (by
    have h1 := gd_undef hk h
    unfold Region.wanted
    simp only [h1]
    rfl) (k _ (hk.put dst undef))
theorem lw_goff_t {j d : Nat} {b : Bool} {dst : Nat} {op : Op} {ty : TypeId} {ps : String} {af : Array Edge} (h : gd ops n fr j = some (d, .bool b)) (hb : b = true)
    (k : LW P ops Q rest n ((dst, undef) :: fr) w) : LW P ops Q ({ dst := some dst, op := op, type := ty, pos := ps, after := af, guard := some (j, false) } :: rest) n fr w := lw_guard_off h (by rw [hb]; rfl) k
theorem lw_goff_f {j d : Nat} {b : Bool} {dst : Nat} {op : Op} {ty : TypeId} {ps : String} {af : Array Edge} (h : gd ops n fr j = some (d, .bool b)) (hb : b = false)
    (k : LW P ops Q rest n ((dst, undef) :: fr) w) : LW P ops Q ({ dst := some dst, op := op, type := ty, pos := ps, after := af, guard := some (j, true) } :: rest) n fr w := lw_guard_off h (by rw [hb]; rfl) k
theorem lw_gon_t {j d : Nat} {b : Bool} {dst : Option Tmp} {op : Op} {ty : TypeId} {ps : String} {af : Array Edge} (h : gd ops n fr j = some (d, .bool b)) (hb : b = true)
    (k : LW P ops Q ({ dst := dst, op := op, type := ty, pos := ps, after := af, guard := none } :: rest) n fr w) : LW P ops Q ({ dst := dst, op := op, type := ty, pos := ps, after := af, guard := some (j, true) } :: rest) n fr w := lw_guard_on h (by rw [hb]; rfl) k
theorem lw_gon_f {j d : Nat} {b : Bool} {dst : Option Tmp} {op : Op} {ty : TypeId} {ps : String} {af : Array Edge} (h : gd ops n fr j = some (d, .bool b)) (hb : b = false)
    (k : LW P ops Q ({ dst := dst, op := op, type := ty, pos := ps, after := af, guard := none } :: rest) n fr w) : LW P ops Q ({ dst := dst, op := op, type := ty, pos := ps, after := af, guard := some (j, false) } :: rest) n fr w := lw_guard_on h (by rw [hb]; rfl) k
/-- A guard that is not decided yet: both ways; in each the slot holds what it was found to be. -/
theorem lw_guard {j d : Nat} {b want : Bool} {dst : Option Tmp} {op : Op} {ty : TypeId} {ps : String} {af : Array Edge} (h : gd ops n fr j = some (d, .bool b))
    (ht : b = true → LW P ops Q ({ dst := dst, op := op, type := ty, pos := ps, after := af, guard := some (j, want) } :: rest) n ((d, .bool true) :: fr) w)
    (hf : b = false → LW P ops Q ({ dst := dst, op := op, type := ty, pos := ps, after := af, guard := some (j, want) } :: rest) n ((d, .bool false) :: fr) w) :
    LW P ops Q ({ dst := dst, op := op, type := ty, pos := ps, after := af, guard := some (j, want) } :: rest) n fr w := fun a hk => by
  obtain ⟨_, h2⟩ := gd_sound hk h
  cases b with
  | true => exact ht rfl a (hk.also h2)
  | false => exact hf rfl a (hk.also h2)

theorem run_callFunc_go {f : FuncId} {fn : Func} {args : Array Value} (h1 : P.funcs[f]? = some fn) (h3 : (fn.name == "runtime.NumGoroutine") = false) (hb : fn.body.isNone = false) : (callFunc f args).run P w = .ok (.enter f args) w := by
  simp only [callFunc, Sem.run_bind, run_program, Result.andThen_ok, h1, h3, hb, Bool.false_eq_true, if_false, Sem.run_pure]
/-- A call of a named function. -/
theorem lw_call (hT : TabOk P T) {d f : Nat} {xs : Array Operand} {ts : Array TypeId} {ty : TypeId} {ps : String} {af : Array Edge} {args : List Value} {R : Value → World → Prop}
    (hf : memN T.fns f = true) (hx : evs n fr xs.toList = some args) (h : Ret P f args w R) (k : ∀ v w', R v w' → LW P ops Q rest n ((d, v) :: fr) w') :
    LW P ops Q ({ dst := some d, op := .call ⟨.value (.func f), xs, ts⟩, type := ty, pos := ps, after := af, guard := none } :: rest) n fr w := fun a hk =>
  wpList_plain rfl fun K hK => by
    obtain ⟨fn, h1, h2, h3⟩ := hT.fn hf
    have e : xs.map a.eval = ⟨args⟩ := Array.toList_inj.1 (by simpa using evs_sound hk hx)
    have hb : fn.body.isNone = false := by cases hb : fn.body <;> simp_all
    have hr : (execOp a.eval { dst := some d, op := .call ⟨.value (.func f), xs, ts⟩, type := ty, pos := ps, after := af, guard := none }).run P w = .ok (.enter f ⟨args⟩) w := by
      rw [execOp_call_go, e]
      simpa using run_callFunc_go (P := P) (w := w) h1 h3 hb
    unfold Oper.wp
    rw [hr]
    show Calls P f ⟨args⟩ w _
    refine Calls.mono h ?_
    rintro _ w' ⟨v, rfl, hR⟩
    exact hK _ _ (k v w' hR _ (hk.put d v))
/-- A call of a function value. -/
theorem lw_call_fn (hT : TabOk P T) {d f : Nat} {x : Operand} {xs : Array Operand} {ts : Array TypeId} {ty : TypeId} {ps : String} {af : Array Edge} {args l c : List Value} {R : Value → World → Prop}
    (hc : ev n fr x = some (.func (.func f) ⟨l⟩ ⟨c⟩)) (hf : memN T.fns f = true) (hx : evs n fr xs.toList = some args) (h : Ret P f (l ++ args ++ c) w R) (k : ∀ v w', R v w' → LW P ops Q rest n ((d, v) :: fr) w') :
    LW P ops Q ({ dst := some d, op := .call ⟨.value x, xs, ts⟩, type := ty, pos := ps, after := af, guard := none } :: rest) n fr w := fun a hk =>
  wpList_plain rfl fun K hK => by
    obtain ⟨fn, h1, h2, h3⟩ := hT.fn hf
    have e : xs.map a.eval = ⟨args⟩ := Array.toList_inj.1 (by simpa using evs_sound hk hx)
    have hb : fn.body.isNone = false := by cases hb : fn.body <;> simp_all
    have hr : (execOp a.eval { dst := some d, op := .call ⟨.value x, xs, ts⟩, type := ty, pos := ps, after := af, guard := none }).run P w = .ok (.enter f ⟨l ++ args ++ c⟩) w := by
      have := run_callFunc_go (P := P) (w := w) (args := ⟨l ++ args ++ c⟩) h1 h3 hb
      simpa [execOp, resolve, ev_sound hk hc, Deferred.ofValue, e, invoke] using this
    unfold Oper.wp
    rw [hr]
    show Calls P f ⟨l ++ args ++ c⟩ w _
    refine Calls.mono h ?_
    rintro _ w' ⟨v, rfl, hR⟩
    exact hK _ _ (k v w' hR _ (hk.put d v))
end

/-! ### Entering and leaving a function. -/
def zipFr : Nat → List Value → Option Fr
  | _, [] => some []
  | i, v :: r => match zipFr (i + 1) r with
    | some l => some ((i, v) :: l)
    | none => none
theorem lk_zipFr : ∀ (l : List Value) (k i : Nat) (v : Value) (fr : Fr), zipFr k l = some fr → lk fr i = some v → k ≤ i ∧ l[i - k]? = some v
  | [], _, _, _, _, h0, h => by simp only [zipFr, Option.some.injEq] at h0; subst h0; simp [lk] at h
  | u :: r, k, i, v, fr, h0, h => by
    simp only [zipFr] at h0
    cases hz : zipFr (k + 1) r with
    | none => simp [hz] at h0
    | some l =>
    simp only [hz, Option.some.injEq] at h0
    subst h0
    simp only [lk] at h
    cases hb : Nat.beq i k with
    | true =>
      simp only [hb, Option.some.injEq] at h
      have := Nat.eq_of_beq_eq_true hb
      subst this; subst h
      simp
    | false =>
      simp only [hb] at h
      obtain ⟨h1, h2⟩ := lk_zipFr r (k + 1) i v l hz h
      refine ⟨by omega, ?_⟩
      have : i - k = (i - (k + 1)) + 1 := by omega
      rw [this]; simpa using h2
/-- Into a function's body. -/
theorem ret_of {P : Program} {f : FuncId} {fn : Func} {c : Code} {args : List Value} {w : World} {R : Value → World → Prop} {n : Nat} {fr : Fr} (hf : P.funcs[f]? = some fn) (hn : fn.ntmps = n) (hb : fn.body = some c)
    (hl : Nat.ble args.length n = true) (hz : zipFr 0 args = some fr) (h : CW P c (bodyPost P fn fun e w' => ∃ v, e = .returned v ∧ R v w') n fr w) : Ret P f args w R := by
  have hle : args.length ≤ n := Nat.le_of_ble_eq_true hl
  refine calls_of_wp hf hb (h _ ⟨?_, rfl, ?_⟩)
  · simp [hn]; omega
  · intro i v hv hi
    obtain ⟨_, h2⟩ := lk_zipFr args 0 i v fr hz hv
    have hi' : i < args.length := by
      rcases Nat.lt_or_ge i args.length with h' | h'
      · exact h'
      · simp [List.getElem?_eq_none h'] at h2
    simp only [Nat.sub_zero] at h2
    rw [Array.getElem?_append_left (by simpa using hi')]
    simpa using h2

/-! ### Cells of a block. -/
def Blk (w : World) (b : Nat) (cs : List Value) (t : TypeId) : Prop := w.heap[b]? = some (.cells ⟨cs⟩ t (0, 0))
theorem Blk.cell {w : World} {b : Nat} {cs : List Value} {t : TypeId} (h : Blk w b cs t) (i : Nat) : w.cell? ⟨b, i, none⟩ = cs[i]? := by
  unfold Blk at h
  simp [World.cell?, h]
theorem Blk.frozen {w : World} {b : Nat} {cs : List Value} {t : TypeId} (h : Blk w b cs t) (i : Nat) (s : Option Nat) : w.frozen? ⟨b, i, s⟩ = false := by
  unfold Blk at h
  simp [World.frozen?, h]
theorem Blk.lt {w : World} {b : Nat} {cs : List Value} {t : TypeId} (h : Blk w b cs t) : b < w.heap.size := (Array.getElem?_eq_some_iff.1 h).1

/-- So many cells from here on. -/
def Rd (w : World) (b o : Nat) (vs : List Value) : Prop := ∀ j v, vs[j]? = some v → w.cell? ⟨b, o + j, none⟩ = some v
theorem Blk.rd {w : World} {b : Nat} {cs : List Value} {t : TypeId} (h : Blk w b cs t) (o k : Nat) : Rd w b o ((cs.drop o).take k) := by
  intro j v hj
  rw [h.cell, ← hj, List.getElem?_take]
  split
  · simp
  · rename_i hk; rw [List.getElem?_take, if_neg hk] at hj; cases hj
theorem Rd.one {w : World} {b o : Nat} {v : Value} (h : w.cell? ⟨b, o, none⟩ = some v) : Rd w b o [v] := by
  intro j u hj
  match j, hj with
  | 0, hj => simp at hj; subst hj; simpa using h
/-- Of a block that lies before one: the cells from a place, taken by looking. -/
theorem Blk.rd_of {w : World} {b : Nat} {cs vs : List Value} {t : TypeId} (h : Blk w b cs t) {o k : Nat} {l : List Value} (h1 : ldrop o cs = some l) (h2 : ltake k l = some vs) : Rd w b o vs := by
  have := h.rd o k
  rwa [ldrop_eq h1, (ltake_eq h2).1] at this

theorem run_loadCells_rd {P : Program} {w : World} {b o : Nat} {vs : List Value} (h : Rd w b o vs) : (loadCells ⟨b, o, none⟩ vs.length).run P w = .ok ⟨vs⟩ w := by
  have := run_loadCells_list (P := P) (w := w) ⟨b, o, none⟩ vs (fun j v hj => by rw [addr_add]; exact h j v hj)
  simpa using this

/-- What a variable of the type reads as. -/
theorem run_loadVar_agg {P : Program} {T : Tab} (hT : TabOk P T) {w : World} {t size b o : Nat} {vs : List Value} (ht : look T.kinds t = some (true, size)) (hl : vs.length = size) (h : Rd w b o vs) :
    (loadVar t ⟨b, o, none⟩).run P w = .ok (.agg ⟨vs⟩) w := by
  obtain ⟨i, d, hi, hs, hu, hd⟩ := hT.kind ht
  have hag : (isAgg t).run P w = .ok true w := by
    unfold isAgg
    cases d <;> simp_all [run_underlying hu]
  simp only [loadVar, Sem.run_bind, hag, Result.andThen_ok, if_true, sizeOf, typeInfo, run_program, hi, Sem.run_pure, hs]
  rw [← hl, run_loadCells_rd h]; rfl
theorem run_loadVar_one {P : Program} {T : Tab} (hT : TabOk P T) {w : World} {t size b o : Nat} {v : Value} (ht : look T.kinds t = some (false, size)) (h : w.cell? ⟨b, o, none⟩ = some v) :
    (loadVar t ⟨b, o, none⟩).run P w = .ok v w := by
  obtain ⟨i, d, hi, hs, hu, hd⟩ := hT.kind ht
  have hag : (isAgg t).run P w = .ok false w := by
    unfold isAgg
    cases d <;> simp_all [run_underlying hu]
  simp [loadVar, hag, h]

section
variable {P : Program} {T : Tab} {n : Nat} {fr : Fr} {w : World} {Q : Exit → Act → World → Prop} {ops : Array Oper} {rest : List Oper}
theorem lw_load (hT : TabOk P T) {d t size : Nat} {x : Operand} {ty : TypeId} {ps : String} {af : Array Edge} {b o : Nat} {v : Value} (hx : ev n fr x = some (.pointer (some ⟨b, o, none⟩)))
    (ht : look T.kinds t = some (false, size)) (hc : w.cell? ⟨b, o, none⟩ = some v) (k : LW P ops Q rest n ((d, v) :: fr) w) :
    LW P ops Q ({ dst := some d, op := .load t x, type := ty, pos := ps, after := af, guard := none } :: rest) n fr w :=
  lw_run rfl rfl (fun a hk => by simp [execOp, ev_sound hk hx, Instr.loadAt, Instr.sureAddr, run_loadVar_one hT ht hc]) k
theorem lw_load_agg (hT : TabOk P T) {d t size : Nat} {x : Operand} {ty : TypeId} {ps : String} {af : Array Edge} {b o : Nat} {vs : List Value} (hx : ev n fr x = some (.pointer (some ⟨b, o, none⟩)))
    (ht : look T.kinds t = some (true, size)) (hl : Nat.beq vs.length size = true) (hc : Rd w b o vs) (k : LW P ops Q rest n ((d, .agg ⟨vs⟩) :: fr) w) :
    LW P ops Q ({ dst := some d, op := .load t x, type := ty, pos := ps, after := af, guard := none } :: rest) n fr w :=
  lw_run rfl rfl (fun a hk => by simp [execOp, ev_sound hk hx, Instr.loadAt, Instr.sureAddr, run_loadVar_agg hT ht (Nat.eq_of_beq_eq_true hl) hc]) k
/-- A slice's element. -/
theorem lw_index (hT : TabOk P T) {d t size : Nat} {x y : Operand} {ty : TypeId} {ps : String} {af : Array Edge} {b o len cap : Nat} {q : IntKind} {i : Int} (hx : ev n fr x = some (.slice (some ⟨b, o, none⟩) len cap))
    (hy : ev n fr y = some (.int q i)) (ht : look T.sls t = some size) (j : Nat) (hj : i = (j : Int)) (hlt : j < len) (k : LW P ops Q rest n ((d, .pointer (some ⟨b, o + j * size, none⟩)) :: fr) w) :
    LW P ops Q ({ dst := some d, op := .indexAddr t x y, type := ty, pos := ps, after := af, guard := none } :: rest) n fr w := by
  obtain ⟨e, inf, hu, hi, hs⟩ := hT.sl ht
  subst hj
  refine lw_run rfl rfl (fun a hk => ?_) k
  simp [execOp, ev_sound hk hx, ev_sound hk hy, Instr.indexAt, asIntOf, run_underlying hu, sizeOf, typeInfo, hi, hs, addr_add, hlt]
theorem lw_index_arr (hT : TabOk P T) {d t size m : Nat} {x y : Operand} {ty : TypeId} {ps : String} {af : Array Edge} {b o : Nat} {q : IntKind} {i : Int} (hx : ev n fr x = some (.pointer (some ⟨b, o, none⟩)))
    (hy : ev n fr y = some (.int q i)) (ht : look T.arrs t = some (m, size)) (j : Nat) (hj : i = (j : Int)) (hlt : j < m) (k : LW P ops Q rest n ((d, .pointer (some ⟨b, o + j * size, none⟩)) :: fr) w) :
    LW P ops Q ({ dst := some d, op := .indexAddr t x y, type := ty, pos := ps, after := af, guard := none } :: rest) n fr w := by
  obtain ⟨e, inf, hu, hi, hs⟩ := hT.arr ht
  subst hj
  refine lw_run rfl rfl (fun a hk => ?_) k
  simp [execOp, ev_sound hk hx, ev_sound hk hy, Instr.indexAt, asIntOf, run_underlying hu, sizeOf, typeInfo, hi, hs, addr_add, hlt, Instr.sureAddr]
/-- A string's byte. -/
theorem lw_byte (hT : TabOk P T) {d t : Nat} {x y : Operand} {ty : TypeId} {ps : String} {af : Array Edge} {s : ByteArray} {q : IntKind} {i : Int} (hx : ev n fr x = some (.string s))
    (hy : ev n fr y = some (.int q i)) (ht : memN T.strs t = true) (j : Nat) (hj : i = (j : Int)) (hlt : j < s.size) (k : LW P ops Q rest n ((d, .int .u8 (s[j].toNat : Nat)) :: fr) w) :
    LW P ops Q ({ dst := some d, op := .index t x y, type := ty, pos := ps, after := af, guard := none } :: rest) n fr w := by
  subst hj
  refine lw_run rfl rfl (fun a hk => ?_) k
  simp [execOp, ev_sound hk hx, ev_sound hk hy, Instr.index, asIntOf, run_underlying (hT.str ht), hlt]
end

/-! ### Results. -/
def rv1 (a : Act) : ResultVar → Sem Value
  | .tmp t => pure (a.tmps.getD t undef)
  | .cell x t => do loadVar t (← asAddr (a.tmps.getD x undef))
def rvs (n : Nat) (fr : Fr) : List ResultVar → Option (List Value)
  | [] => some []
  | .tmp t :: r => match Nat.blt t n, lk fr t, rvs n fr r with
    | true, some v, some l => some (v :: l)
    | _, _, _ => none
  | .cell _ _ :: _ => none
def oneOr : List Value → Value
  | [v] => v
  | l => .tuple ⟨l⟩
theorem rvs_sound {P : Program} {n : Nat} {fr : Fr} {a : Act} (hk : Kn n fr a) {w : World} : ∀ {l : List ResultVar} {vs : List Value}, rvs n fr l = some vs → (l.mapM (rv1 a)).run P w = .ok vs w
  | [], vs, h => by simp only [rvs, Option.some.injEq] at h; subst h; rfl
  | .tmp t :: r, vs, h => by
    simp only [rvs] at h
    split at h
    · rename_i v l hb hl hr
      simp only [Option.some.injEq] at h; subst h
      have ht : t < n := by simpa [Nat.blt_eq] using hb
      have e := hk.2.2 t v hl ht
      have := rvs_sound (P := P) hk (w := w) hr
      simp [List.mapM_cons, rv1, Array.getD_eq_getD_getElem?, e, this]
    · cases h
  | .cell _ _ :: _, vs, h => by simp [rvs] at h
theorem rvs_cell {P : Program} {T : Tab} (hT : TabOk P T) {n : Nat} {fr : Fr} {a : Act} (hk : Kn n fr a) {w : World} {x t size b o : Nat} {vs : List Value} (hx : ev n fr (.tmp x) = some (.pointer (some ⟨b, o, none⟩)))
    (ht : look T.kinds t = some (true, size)) (hl : Nat.beq vs.length size = true) (hc : Rd w b o vs) {r : List ResultVar} {us : List Value} (h : rvs n fr r = some us) :
    ((ResultVar.cell x t :: r).mapM (rv1 a)).run P w = .ok (.agg ⟨vs⟩ :: us) w := by
  have e : a.tmps.getD x undef = .pointer (some ⟨b, o, none⟩) := ev_sound hk hx
  simp [List.mapM_cons, rv1, e, asAddr, run_loadVar_agg hT ht (Nat.eq_of_beq_eq_true hl) hc, rvs_sound (P := P) hk (w := w) h]
theorem rvs_tmp_cell {P : Program} {T : Tab} (hT : TabOk P T) {n : Nat} {fr : Fr} {a : Act} (hk : Kn n fr a) {w : World} {y x t size b o : Nat} {v : Value} {vs : List Value} (hy : ev n fr (.tmp y) = some v) (hx : ev n fr (.tmp x) = some (.pointer (some ⟨b, o, none⟩)))
    (ht : look T.kinds t = some (true, size)) (hl : Nat.beq vs.length size = true) (hc : Rd w b o vs) :
    ([ResultVar.tmp y, ResultVar.cell x t].mapM (rv1 a)).run P w = .ok [v, .agg ⟨vs⟩] w := by
  have e : a.tmps.getD x undef = .pointer (some ⟨b, o, none⟩) := ev_sound hk hx
  have e' : a.tmps.getD y undef = v := ev_sound hk hy
  simp [List.mapM_cons, rv1, e, e', asAddr, run_loadVar_agg hT ht (Nat.eq_of_beq_eq_true hl) hc]
theorem results_run {P : Program} {fn : Func} {a : Act} {w : World} {vs : List Value} (h : (fn.results.toList.mapM (rv1 a)).run P w = .ok vs w) : (results fn a.tmps).run P w = .ok (oneOr vs) w := by
  have e : results fn a.tmps = (fn.results.mapM (rv1 a) >>= fun vs => pure (if h : vs.size = 1 then vs[0] else .tuple vs)) := rfl
  rw [e, Sem.run_bind, Array.mapM_eq_mapM_toList, Sem.run_map, h]
  simp only [Result.andThen_ok, Sem.run_pure]
  congr 1
  match vs with
  | [] => rfl
  | [v] => rfl
  | v :: u :: r => simp [oneOr]
section
variable {P : Program} {T : Tab} {fn : Func} {n : Nat} {fr : Fr} {w : World} {R : Value → World → Prop}
theorem qw_ret {vs : List Value} (h : rvs n fr fn.results.toList = some vs) (hR : R (oneOr vs) w) : QW (bodyPost P fn fun e w' => ∃ v, e = .returned v ∧ R v w') .ret n fr w := fun _ hk =>
  ⟨hk.2.1, _, results_run (rvs_sound hk h), _, rfl, hR⟩
theorem qw_end {vs : List Value} (h : rvs n fr fn.results.toList = some vs) (hR : R (oneOr vs) w) : QW (bodyPost P fn fun e w' => ∃ v, e = .returned v ∧ R v w') .normal n fr w := fun _ hk =>
  ⟨hk.2.1, _, results_run (rvs_sound hk h), _, rfl, hR⟩
theorem qw_ret_cell (hT : TabOk P T) {x t size b o : Nat} {r : List ResultVar} {vs us : List Value} (hf : fn.results.toList = .cell x t :: r) (hx : ev n fr (.tmp x) = some (.pointer (some ⟨b, o, none⟩)))
    (ht : look T.kinds t = some (true, size)) (hl : Nat.beq vs.length size = true) (hc : Rd w b o vs) (h : rvs n fr r = some us) (hR : R (oneOr (.agg ⟨vs⟩ :: us)) w) :
    QW (bodyPost P fn fun e w' => ∃ v, e = .returned v ∧ R v w') .ret n fr w := fun _ hk =>
  ⟨hk.2.1, _, results_run (by rw [hf]; exact rvs_cell hT hk hx ht hl hc h), _, rfl, hR⟩
theorem qw_ret_tmp_cell (hT : TabOk P T) {y x t size b o : Nat} {v : Value} {vs : List Value} (hf : fn.results.toList = [.tmp y, .cell x t]) (hy : ev n fr (.tmp y) = some v) (hx : ev n fr (.tmp x) = some (.pointer (some ⟨b, o, none⟩)))
    (ht : look T.kinds t = some (true, size)) (hl : Nat.beq vs.length size = true) (hc : Rd w b o vs) (hR : R (oneOr [v, .agg ⟨vs⟩]) w) :
    QW (bodyPost P fn fun e w' => ∃ v, e = .returned v ∧ R v w') .ret n fr w := fun _ hk =>
  ⟨hk.2.1, _, results_run (by rw [hf]; exact rvs_tmp_cell hT hk hy hx ht hl hc), _, rfl, hR⟩
end
attribute [irreducible] CW LW QW Ret Kn
end Go.SK
