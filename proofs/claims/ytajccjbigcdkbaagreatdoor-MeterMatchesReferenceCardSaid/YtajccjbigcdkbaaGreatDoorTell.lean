/- A law on statements whose order of evaluation is open: a region whose operations, but for a tail in one order, only read and make new memory; the value of some of them is told by a relation that stays when the world grows (new rows, calls that hand back new memory): one walk of the text's order serves every order. -/
import Derived.StillTail
import Derived.Below
set_option linter.unusedSimpArgs false
set_option linter.unusedVariables false
namespace Go.Proofs.YtajccjbigcdkbaaGreatDoor.Tell
open Go.RowKit

/-- What an operation hands on: a value, in a world. -/
def okv (P : Program) (K : Value → World → Prop) : Result Next → Prop
  | .ok (.value u) w => K u w
  | .ok .skip w => K undef w
  | .ok (.enter f args) w => Calls P f args w fun e w' => ∃ v, e = .returned v ∧ K v w'
  | .ok (.row row args) w => Rows P row args w fun v w' => K v w'
  | _ => False

/-- The end of one operation in the walk: the world has only grown; what follows is asked of the frame alone. -/
def MQ (W : World) (a : Act) (K : World → Act → Prop) (e : Exit) (a' : Act) (w' : World) : Prop := e = .normal ∧ a'.defers = a.defers ∧ Below W.heap.size W w' ∧ K w' a'

/-- An operation whose value is told by a relation: its number, its slot; of the value, the heap's sizes ahead and behind, the world. -/
structure Told where
  idx : Nat
  dst : Tmp
  rel : Value → Nat → Nat → World → Prop

def slot (a : Act) (t : Tmp) : Value := a.tmps.getD t undef

section
variable (P : Program) (ops : Array Oper) (ts : List Told) (B : Nat)

def isT (k : Nat) : Bool := ts.any (·.idx == k)
def looksT (o : Oper) : Bool := ts.any fun r => (o.looksAt ops).contains r.dst
/-- What an operation may lean on: of each told slot that it looks at, its relation. -/
def Hyps (o : Oper) (a : Act) (W : World) : Prop := ∀ r ∈ ts, (o.looksAt ops).contains r.dst = true → ∃ lo hi, r.rel (slot a r.dst) lo hi W ∧ B ≤ lo ∧ lo ≤ hi ∧ hi ≤ W.heap.size

/-- The walk of the operations in the order of the text, each in the one world W. -/
def walkT (vals : Nat → Value) (W : World) (aU : Act) : Nat → List Oper → Act → Prop
  | _, [], a => a = aU
  | k, o :: rest, a =>
    if isT ts k = true then (∀ r ∈ ts, r.idx = k → Hyps ops ts B o a W → wpList P ops (MQ W a (fun w' a' => r.rel (slot a' r.dst) W.heap.size w'.heap.size w')) [o] a W) ∧ walkT vals W aU (k + 1) rest (a.put o.dst (vals k))
    else if looksT ops ts o = true then ∃ u, (Hyps ops ts B o a W → wpList P ops (MQ W a (fun _ a' => ∀ d, o.dst = some d → slot a' d = u)) [o] a W) ∧ walkT vals W aU (k + 1) rest (a.put o.dst u)
    else wpList P ops (MQ W a (fun _ a' => walkT vals W aU (k + 1) rest a')) [o] a W

def dstOf (i : Nat) : Option Tmp := (ops[i]?).bind (·.dst)
end

section
variable {P : Program} {ops : Array Oper} {ts : List Told} {B : Nat}

/-- The closed test. -/
def mildB (ops : Array Oper) (n : Nat) (ts : List (Nat × Tmp)) (sz : Nat) : Bool :=
  Region.noSelect ops && decide (n < ops.size) && Region.sinkB .any ops n && Region.chainB .any ops n &&
  Region.seqB .any ops (ops.size - n) n ((Array.range ops.size).map fun i => decide (i < n)) &&
  (List.range n).all (fun i => match ops[i]? with
    | none => false
    | some o =>
      o.after.all (fun e => !Region.binds .any e || decide (e.on < i)) &&
      (match o.dst with | none => true | some d => decide (d < sz)) &&
      (List.range n).all (fun j => match ops[j]? with
        | none => false
        | some oj => match oj.dst with
          | none => true
          | some d => (i == j || o.dst != some d) && (!(o.looksAt ops).contains d || (decide (j < i) && o.after.any (fun e => Region.binds .any e && e.on == j))))) &&
  ts.all (fun m => decide (m.1 < n) && match ops[m.1]? with | none => false | some o => o.dst == some m.2)

structure MildOk (ops : Array Oper) (n : Nat) (tl : List (Nat × Tmp)) (sz : Nat) : Prop where
  sel : Region.noSelect ops = true
  lt : n < ops.size
  sink : Region.sinkB .any ops n = true
  chain : Region.chainB .any ops n = true
  seq : Region.seqB .any ops (ops.size - n) n ((Array.range ops.size).map fun i => decide (i < n)) = true
  ex : ∀ i, i < n → ∃ o, ops[i]? = some o
  edges : ∀ i o, i < n → ops[i]? = some o → ∀ e ∈ o.after, Region.binds .any e = true → e.on < i
  inb : ∀ i o d, i < n → ops[i]? = some o → o.dst = some d → d < sz
  apart : ∀ i j o oj d, i < n → j < n → i ≠ j → ops[i]? = some o → ops[j]? = some oj → oj.dst = some d → o.dst ≠ some d
  looks : ∀ i j o oj d, i < n → j < n → ops[i]? = some o → ops[j]? = some oj → oj.dst = some d → d ∈ o.looksAt ops → j < i ∧ ∃ e ∈ o.after, Region.binds .any e = true ∧ e.on = j
  tls : ∀ m ∈ tl, m.1 < n ∧ ∃ o, ops[m.1]? = some o ∧ o.dst = some m.2

theorem mildB_spec {n sz : Nat} {tl : List (Nat × Tmp)} (h : mildB ops n tl sz = true) : MildOk ops n tl sz := by
  simp only [mildB, Bool.and_eq_true, decide_eq_true_eq] at h
  obtain ⟨⟨⟨⟨⟨⟨h1, h2⟩, h3⟩, h4⟩, h5⟩, h6⟩, h7⟩ := h
  have key : ∀ i, i < n → ∃ o, ops[i]? = some o ∧ (∀ e ∈ o.after, Region.binds .any e = true → e.on < i) ∧ (∀ d, o.dst = some d → d < sz) ∧
      ∀ j, j < n → ∀ oj d, ops[j]? = some oj → oj.dst = some d → (i ≠ j → o.dst ≠ some d) ∧ (d ∈ o.looksAt ops → j < i ∧ ∃ e ∈ o.after, Region.binds .any e = true ∧ e.on = j) := by
    intro i hi
    have hh := List.all_eq_true.1 h6 i (List.mem_range.2 hi)
    cases ho : ops[i]? with
    | none => simp [ho] at hh
    | some o =>
      simp only [ho, Bool.and_eq_true] at hh
      obtain ⟨⟨g1, g2⟩, g3⟩ := hh
      refine ⟨o, rfl, fun e he hb => ?_, fun d hd => ?_, fun j hj oj d hoj hd => ?_⟩
      · have := Array.all_eq_true_iff_forall_mem.1 g1 e he
        simpa [hb] using this
      · simpa [hd] using g2
      · have := List.all_eq_true.1 g3 j (List.mem_range.2 hj)
        simp only [hoj, hd, Bool.and_eq_true, Bool.or_eq_true, beq_iff_eq, bne_iff_ne, Bool.not_eq_true', decide_eq_true_eq] at this
        obtain ⟨q1, q2⟩ := this
        refine ⟨fun hne => q1.resolve_left hne, fun hl => ?_⟩
        rcases q2 with q2 | ⟨q2, q4⟩
        · rw [List.contains_eq_mem] at q2
          simp [hl] at q2
        · obtain ⟨e, he, hb⟩ := Array.any_eq_true'.1 q4
          simp only [Bool.and_eq_true, beq_iff_eq] at hb
          exact ⟨q2, e, he, hb.1, hb.2⟩
  refine ⟨h1, h2, h3, h4, h5, fun i hi => ?_, fun i o hi ho => ?_, fun i o d hi ho hd => ?_, fun i j o oj d hi hj hne ho hoj hd => ?_, fun i j o oj d hi hj ho hoj hd hl => ?_, fun m hm => ?_⟩
  · obtain ⟨o, ho, _⟩ := key i hi; exact ⟨o, ho⟩
  · obtain ⟨o', ho', g, _⟩ := key i hi; rw [ho] at ho'; cases ho'; exact g
  · obtain ⟨o', ho', _, g, _⟩ := key i hi; rw [ho] at ho'; cases ho'; exact g d hd
  · obtain ⟨o', ho', _, _, g⟩ := key i hi; rw [ho] at ho'; cases ho'; exact (g j hj oj d hoj hd).1 hne
  · obtain ⟨o', ho', _, _, g⟩ := key i hi; rw [ho] at ho'; cases ho'; exact (g j hj oj d hoj hd).2 hl
  · have hh := List.all_eq_true.1 h7 m hm
    simp only [Bool.and_eq_true, decide_eq_true_eq] at hh
    refine ⟨hh.1, ?_⟩
    cases ho : ops[m.1]? with
    | none => simp [ho] at hh
    | some o =>
      simp only [ho, beq_iff_eq] at hh
      exact ⟨o, rfl, hh.2⟩

/-! ### Slots -/
theorem slot_put_same {a : Act} {d : Tmp} {v : Value} (h : d < a.tmps.size) : slot (a.put (some d) v) d = v := by
  simp [slot, Act.put, h]
theorem slot_put_ne {a : Act} {dst : Option Tmp} {t : Tmp} {v : Value} (h : dst ≠ some t) : slot (a.put dst v) t = slot a t := by
  cases dst with
  | none => rfl
  | some d =>
    have hne : d ≠ t := fun e => h (by rw [e])
    simp [slot, Act.put, Array.getElem?_setIfInBounds_ne hne]
theorem size_put (a : Act) (dst : Option Tmp) (v : Value) : (a.put dst v).tmps.size = a.tmps.size := by cases dst <;> simp [Act.put]
theorem defers_put (a : Act) (dst : Option Tmp) (v : Value) : (a.put dst v).defers = a.defers := by cases dst <;> rfl
theorem act_ext {a b : Act} (h1 : a.tmps.size = b.tmps.size) (h2 : a.defers = b.defers) (h3 : ∀ t, slot a t = slot b t) : a = b := by
  obtain ⟨at_, ad⟩ := a
  obtain ⟨bt, bd⟩ := b
  dsimp only at *
  subst h2
  have : at_ = bt := by
    apply Array.ext h1
    intro i hi hi'
    have := h3 i
    simpa [slot, hi, hi'] using this
  rw [this]
theorem eval_slots {a b : Act} (x : Operand) (h : ∀ t, x = .tmp t → slot a t = slot b t) : a.eval x = b.eval x := by
  cases x with
  | tmp t => exact h t rfl
  | _ => rfl

theorem exec_same {o : Oper} {a b : Act} (hs : ∀ cs c, o.op ≠ .select cs c) (h : ∀ t, t ∈ o.looksAt ops → slot a t = slot b t) : execOp a.eval o = execOp b.eval o :=
  execOp_congr o hs fun x hx => eval_slots x fun t ht => h t (by
    unfold Oper.looksAt
    refine List.mem_append_left _ (List.mem_filterMap.2 ⟨x, by simpa using hx, ?_⟩)
    rw [ht])
theorem yielded_slot (a : Act) (j : Nat) : yielded ops a.tmps j = match dstOf ops j with
    | none => none
    | some t => match slot a t with | .bool b => some b | _ => none := by
  unfold yielded dstOf slot
  cases (ops[j]?).bind (·.dst) with
  | none => rfl
  | some t =>
    simp only [Option.bind_some]
    rw [Array.getD_eq_getD_getElem?]
    cases a.tmps[t]? with
    | none => rfl
    | some v => cases v <;> rfl
theorem wanted_same {o : Oper} {a b : Act} (h : ∀ t, t ∈ o.looksAt ops → slot a t = slot b t) : Region.wanted o (yielded ops a.tmps) = Region.wanted o (yielded ops b.tmps) := by
  unfold Region.wanted
  cases hg : o.guard with
  | none => rfl
  | some gw =>
    obtain ⟨g, want⟩ := gw
    have hy : yielded ops a.tmps g = yielded ops b.tmps g := by
      rw [yielded_slot, yielded_slot]
      cases ht : dstOf ops g with
      | none => rfl
      | some t =>
        have : slot a t = slot b t := h t (by unfold Oper.looksAt; rw [hg]; exact List.mem_append_right _ (by unfold dstOf at ht; simp [ht]))
        simp only [this]
    simp only [hy]

/-! ### What the walk shows of each operation -/
section
variable (ops)
/-- What operation i leaves in its slot, by the frame in which the walk ends. -/
def valU (aU : Act) (i : Nat) : Value := match dstOf ops i with | some d => slot aU d | none => undef
/-- The frame of the walk ahead of operation k. -/
def frQ (aU a0 : Act) : Nat → Act
  | 0 => a0
  | k + 1 => (frQ aU a0 k).put (dstOf ops k) (valU ops aU k)
end

theorem frQ_shape (aU a0 : Act) (k : Nat) : (frQ ops aU a0 k).tmps.size = a0.tmps.size ∧ (frQ ops aU a0 k).defers = a0.defers := by
  induction k with
  | zero => exact ⟨rfl, rfl⟩
  | succ k ih =>
    unfold frQ
    exact ⟨by rw [size_put]; exact ih.1, by rw [defers_put]; exact ih.2⟩
theorem frQ_far (aU a0 : Act) (k : Nat) (t : Tmp) (h : ∀ j, j < k → dstOf ops j ≠ some t) : slot (frQ ops aU a0 k) t = slot a0 t := by
  induction k with
  | zero => rfl
  | succ k ih =>
    unfold frQ
    rw [slot_put_ne (h k (by omega))]
    exact ih fun j hj => h j (by omega)
theorem frQ_near {n sz : Nat} {tl : List (Nat × Tmp)} (ok : MildOk ops n tl sz) {aU a0 : Act} (hsz : a0.tmps.size = sz) (k : Nat) (hk : k ≤ n) (j : Nat) (hj : j < k) (d : Tmp) (hd : dstOf ops j = some d) :
    slot (frQ ops aU a0 k) d = slot aU d := by
  induction k with
  | zero => omega
  | succ k ih =>
    obtain ⟨oj, hoj⟩ := ok.ex j (by omega)
    have hdj : oj.dst = some d := by unfold dstOf at hd; simpa [hoj] using hd
    unfold frQ
    by_cases hjk : j = k
    · subst hjk
      rw [hd, slot_put_same (by rw [(frQ_shape aU a0 j).1, hsz]; exact ok.inb j oj d (by omega) hoj hdj)]
      unfold valU; rw [hd]
    · obtain ⟨o, ho⟩ := ok.ex k (by omega)
      have hne : dstOf ops k ≠ some d := by
        have := ok.apart k j o oj d (by omega) (by omega) (Ne.symm hjk) ho hoj hdj
        unfold dstOf; simpa [ho] using this
      rw [slot_put_ne hne]; exact ih (by omega) (by omega)

/-- What one operation of a walk leaves: the world has grown; the frame has its value. -/
theorem one_spec {W : World} {a : Act} {o : Oper} {K : World → Act → Prop} (h : wpList P ops (MQ W a K) [o] a W) :
    (Region.wanted o (yielded ops a.tmps) = true ∧ okv P (fun u w' => Below W.heap.size W w' ∧ K w' (a.put o.dst u)) ((execOp a.eval o).run P W)) ∨
    (Region.wanted o (yielded ops a.tmps) = false ∧ K W (a.put o.dst undef)) := by
  unfold wpList at h
  split at h
  · rename_i hw
    refine .inl ⟨hw, ?_⟩
    rcases h with h | ⟨_, _, _, h⟩
    · unfold Oper.wp at h
      generalize (execOp a.eval o).run P W = r at h
      cases r with
      | ok nx w' =>
        cases nx <;> simp only [Oper.upon, wpList] at h
        case value u => exact ⟨h.2.2.1, h.2.2.2⟩
        case skip => exact ⟨h.2.2.1, h.2.2.2⟩
        case defer d =>
          have := h.2.1
          rw [defers_put] at this
          exact absurd this (by simp)
        case enter f args =>
          show Calls P f args w' _
          refine h.mono fun e w'' hR => ?_
          cases e with
          | returned v => exact ⟨v, rfl, hR.2.2.1, hR.2.2.2⟩
          | panicked c => exact absurd hR.1 (by simp)
          | outgrown => obtain ⟨_, _, hR⟩ := hR; exact absurd hR.1 (by simp)
        case row row args =>
          show Rows P row args w' _
          exact h.mono fun v w'' hR => ⟨hR.2.2.1, hR.2.2.2⟩
      | halt x w' =>
        cases x <;> simp only [Oper.upon] at h
        exact absurd h.1 (by simp)
    · exact absurd h.1 (by simp)
  · rename_i hw
    simp only [wpList] at h
    exact .inr ⟨by simpa using hw, h.2.2.2⟩
/-- Some value has come. -/
theorem okv_ex {K : Value → World → Prop} {W : World} {r : Result Next} (h : okv P K r) : ∃ u w', K u w' := by
  cases r with
  | ok nx w' =>
    cases nx <;> simp only [okv] at h
    case value u => exact ⟨_, _, h⟩
    case skip => exact ⟨_, _, h⟩
    case enter f args =>
      obtain ⟨e, w'', _, ⟨v, _, hR⟩, _⟩ := h []
      exact ⟨_, _, hR⟩
    case row row args =>
      obtain ⟨v, w'', hR, _⟩ := h default []
      exact ⟨_, _, hR⟩
  | halt x w' => simp only [okv] at h
theorem one_ex {W : World} {a : Act} {o : Oper} {K : World → Act → Prop} (h : wpList P ops (MQ W a K) [o] a W) : ∃ u w', K w' (a.put o.dst u) := by
  rcases one_spec h with ⟨_, h⟩ | ⟨_, h⟩
  · obtain ⟨u, w', _, h⟩ := okv_ex (W := W) h
    exact ⟨u, w', h⟩
  · exact ⟨_, _, h⟩

/-- The slots that the rest of a walk does not write stay. -/
theorem walkT_keeps {vals : Nat → Value} {W : World} {aU : Act} : ∀ (l : List Oper) (k : Nat) (a : Act) (t : Tmp), (∀ o ∈ l, o.dst ≠ some t) → walkT P ops ts B vals W aU k l a → slot aU t = slot a t
  | [], _, a, t, _, h => by rw [show a = aU from h]
  | o :: l, k, a, t, hl, h => by
    have hne := hl o (List.mem_cons_self ..)
    have rest := fun a' h => walkT_keeps (vals := vals) (W := W) (aU := aU) l (k + 1) a' t (fun o' ho => hl o' (List.mem_cons_of_mem _ ho)) h
    unfold walkT at h
    split at h
    · rw [rest _ h.2, slot_put_ne hne]
    · split at h
      · obtain ⟨u, _, h⟩ := h
        rw [rest _ h, slot_put_ne hne]
      · obtain ⟨u, _, h⟩ := one_ex h
        rw [rest _ h, slot_put_ne hne]

/-- What the walk shows of operation i, in the world W. -/
def HQ (P : Program) (ops : Array Oper) (ts : List Told) (B : Nat) (aU a0 : Act) (W : World) (i : Nat) (o : Oper) : Prop :=
  Hyps ops ts B o (frQ ops aU a0 i) W →
  ∀ (V : Value → World → Prop), (∀ u w', Below W.heap.size W w' → (isT ts i = false → o.dst.isSome = true → u = valU ops aU i) → (∀ r ∈ ts, r.idx = i → o.dst = some r.dst → r.rel u W.heap.size w'.heap.size w') → V u w') →
    (Region.wanted o (yielded ops (frQ ops aU a0 i).tmps) = true ∧ okv P V ((execOp (frQ ops aU a0 i).eval o).run P W)) ∨
    (Region.wanted o (yielded ops (frQ ops aU a0 i).tmps) = false ∧ V undef W)

theorem okv_mono {K K' : Value → World → Prop} (hk : ∀ u w', K u w' → K' u w') {r : Result Next} (h : okv P K r) : okv P K' r := by
  cases r with
  | ok nx w' =>
    cases nx <;> simp only [okv] at h ⊢
    case value u => exact hk _ _ h
    case skip => exact hk _ _ h
    case enter f args => exact h.mono fun e w'' ⟨v, hv, h⟩ => ⟨v, hv, hk _ _ h⟩
    case row row args => exact h.mono fun v w'' h => hk _ _ h
  | halt x w' => simp only [okv] at h

theorem walkT_spec {n sz : Nat} {tl : List (Nat × Tmp)} (ok : MildOk ops n tl sz) {vals : Nat → Value} {W : World} {aU a0 : Act} (hsz : a0.tmps.size = sz) (hu : ∀ r ∈ ts, ∀ r' ∈ ts, r'.idx = r.idx → r' = r) : ∀ (l : List Oper) (k : Nat), (∀ j, j < l.length → l[j]? = ops[k + j]?) → k + l.length = n →
    walkT P ops ts B vals W aU k l (frQ ops aU a0 k) → frQ ops aU a0 n = aU ∧ ∀ i o, k ≤ i → i < n → ops[i]? = some o → HQ P ops ts B aU a0 W i o
  | [], k, _, hk, h => by
    have hkn : k = n := by simpa using hk
    subst hkn
    exact ⟨h, fun i o h1 h2 => by omega⟩
  | o :: l, k, hl, hk, h => by
    have hkn : k < n := by simp only [List.length_cons] at hk; omega
    have h0 : ops[k]? = some o := by simpa using (hl 0 (by simp)).symm
    have hl' : ∀ j, j < l.length → l[j]? = ops[k + 1 + j]? := fun j hj => by
      have := hl (j + 1) (by simp; omega)
      simpa [Nat.add_assoc, Nat.add_comm 1 j] using this
    have hk' : k + 1 + l.length = n := by simp only [List.length_cons] at hk; omega
    have hdst : dstOf ops k = o.dst := by unfold dstOf; simp [h0]
    have hfar : ∀ d, o.dst = some d → ∀ o' ∈ l, o'.dst ≠ some d := fun d hd o' ho' => by
      obtain ⟨j, hj, hjo⟩ := List.mem_iff_getElem.1 ho'
      have hoj : ops[k + 1 + j]? = some o' := by rw [← hl' j hj]; simp [hj, hjo]
      exact ok.apart (k + 1 + j) k o' o d (by omega) hkn (by omega) hoj h0 hd
    -- whatever value the walk goes on with: it is the one in the frame in which it ends
    have step : ∀ u, walkT P ops ts B vals W aU (k + 1) l ((frQ ops aU a0 k).put o.dst u) → (o.dst.isSome = true → u = valU ops aU k) ∧ walkT P ops ts B vals W aU (k + 1) l (frQ ops aU a0 (k + 1)) := by
      intro u hq
      have hv : o.dst.isSome = true → u = valU ops aU k := fun hs => by
        obtain ⟨d, hd⟩ := Option.isSome_iff_exists.1 hs
        unfold valU
        rw [hdst, hd]
        dsimp only
        rw [walkT_keeps l (k + 1) _ d (hfar d hd) hq, hd, slot_put_same]
        rw [(frQ_shape aU a0 k).1, hsz]; exact ok.inb k o d hkn h0 hd
      refine ⟨hv, ?_⟩
      have hf : frQ ops aU a0 (k + 1) = (frQ ops aU a0 k).put o.dst u := by
        conv => lhs; unfold frQ
        rw [hdst]
        cases hd : o.dst with
        | none => rfl
        | some d => rw [hv (by rw [hd]; rfl)]
      rw [hf]; exact hq
    have fin : HQ P ops ts B aU a0 W k o ∧ walkT P ops ts B vals W aU (k + 1) l (frQ ops aU a0 (k + 1)) := by
      have hput : ∀ d u, o.dst = some d → slot ((frQ ops aU a0 k).put o.dst u) d = u := fun d u hd => by
        rw [hd, slot_put_same]
        rw [(frQ_shape aU a0 k).1, hsz]; exact ok.inb k o d hkn h0 hd
      unfold walkT at h
      split at h
      · rename_i ht
        obtain ⟨h1, h2⟩ := h
        obtain ⟨g1, g2⟩ := step _ h2
        refine ⟨fun hy V hV => ?_, g2⟩
        obtain ⟨r0, hr0, he0⟩ := List.any_eq_true.1 ht
        have he0' : r0.idx = k := by simpa using he0
        have one : ∀ u w', r0.rel (slot ((frQ ops aU a0 k).put o.dst u) r0.dst) W.heap.size w'.heap.size w' → ∀ r ∈ ts, r.idx = k → o.dst = some r.dst → r.rel u W.heap.size w'.heap.size w' := fun u w' h r hr he hd => by
          have hrr : r = r0 := hu r0 hr0 r hr (he.trans he0'.symm)
          subst hrr
          rwa [hput _ u hd] at h
        rcases one_spec (h1 r0 hr0 he0' hy) with ⟨hw, hq⟩ | ⟨hw, hq⟩
        · exact .inl ⟨hw, okv_mono (fun u w' h => hV u w' h.1 (fun hf => by rw [ht] at hf; cases hf) (one u w' h.2)) hq⟩
        · exact .inr ⟨hw, hV _ _ (Below.refl _ _) (fun hf => by rw [ht] at hf; cases hf) (one _ _ hq)⟩
      · rename_i ht
        have ht' : isT ts k = false := by simpa using ht
        have noT : ∀ r ∈ ts, r.idx = k → False := fun r hr he => by
          have : isT ts k = true := List.any_eq_true.2 ⟨r, hr, by simp [he]⟩
          rw [ht'] at this; cases this
        split at h
        · obtain ⟨u0, h1, h2⟩ := h
          obtain ⟨g1, g2⟩ := step _ h2
          refine ⟨fun hy V hV => ?_, g2⟩
          rcases one_spec (h1 hy) with ⟨hw, hq⟩ | ⟨hw, hq⟩
          · refine .inl ⟨hw, okv_mono (fun u w' h => hV u w' h.1 (fun _ hs => ?_) (fun r hr he => (noT r hr he).elim)) hq⟩
            obtain ⟨d, hd⟩ := Option.isSome_iff_exists.1 hs
            have := h.2 d hd
            rw [hput d u hd] at this
            rw [this]; exact g1 hs
          · refine .inr ⟨hw, hV _ _ (Below.refl _ _) (fun _ hs => ?_) (fun r hr he => (noT r hr he).elim)⟩
            obtain ⟨d, hd⟩ := Option.isSome_iff_exists.1 hs
            have := hq d hd
            rw [hput d undef hd] at this
            rw [this]; exact g1 hs
        · obtain ⟨u0, w0, h2⟩ := one_ex h
          obtain ⟨g1, g2⟩ := step _ h2
          refine ⟨fun hy V hV => ?_, g2⟩
          rcases one_spec h with ⟨hw, hq⟩ | ⟨hw, hq⟩
          · exact .inl ⟨hw, okv_mono (fun u w' h => hV u w' h.1 (fun _ hs => (step _ h.2).1 hs) (fun r hr he => (noT r hr he).elim)) hq⟩
          · exact .inr ⟨hw, hV _ _ (Below.refl _ _) (fun _ hs => (step _ hq).1 hs) (fun r hr he => (noT r hr he).elim)⟩
    obtain ⟨r1, r2⟩ := walkT_spec ok hsz hu l (k + 1) hl' hk' fin.2
    refine ⟨r1, fun i o' h1 h2 h4 => ?_⟩
    by_cases hik : i = k
    · subst hik; rw [h0] at h4; cases h4; exact fin.1
    · exact r2 i o' (by omega) h2 h4

/-! ### Every order -/
/-- The frame with the told values. -/
def putAll (ts : List Told) (vals : Nat → Value) (a : Act) : Act := ts.foldl (fun a m => a.put (some m.dst) (vals m.idx)) a

theorem putAll_shape (vals : Nat → Value) : ∀ (ms : List Told) (a : Act), (putAll ms vals a).tmps.size = a.tmps.size ∧ (putAll ms vals a).defers = a.defers
  | [], _ => ⟨rfl, rfl⟩
  | m :: ms, a => by
    have h := putAll_shape vals ms (a.put (some m.dst) (vals m.idx))
    rw [size_put, defers_put] at h
    exact h
theorem putAll_far (vals : Nat → Value) : ∀ (ms : List Told) (a : Act) (t : Tmp), (∀ m ∈ ms, m.dst ≠ t) → slot (putAll ms vals a) t = slot a t
  | [], _, _, _ => rfl
  | m :: ms, a, t, h => by
    have h1 := putAll_far vals ms (a.put (some m.dst) (vals m.idx)) t (fun m' hm => h m' (List.mem_cons_of_mem _ hm))
    have h2 : slot (a.put (some m.dst) (vals m.idx)) t = slot a t := slot_put_ne (by simpa using h m (List.mem_cons_self ..))
    exact h1.trans h2
theorem putAll_near (vals : Nat → Value) : ∀ (ms : List Told) (a : Act) (m : Told), m ∈ ms → m.dst < a.tmps.size → (∀ m' ∈ ms, m'.dst = m.dst → m'.idx = m.idx) → slot (putAll ms vals a) m.dst = vals m.idx
  | [], _, _, hm, _, _ => by cases hm
  | m0 :: ms, a, m, hm, hlt, h => by
    show slot (putAll ms vals (a.put (some m0.dst) (vals m0.idx))) m.dst = _
    by_cases hex : ∃ m' ∈ ms, m'.dst = m.dst
    · obtain ⟨m', hm', hd⟩ := hex
      have hi := h m' (List.mem_cons_of_mem _ hm') hd
      have := putAll_near vals ms (a.put (some m0.dst) (vals m0.idx)) m' hm' (by rw [size_put, hd]; exact hlt) (fun m2 hm2 hd2 => (h m2 (List.mem_cons_of_mem _ hm2) (hd2.trans hd)).trans hi.symm)
      rw [← hd, this, hi]
    · have hm0 : m0 = m := by
        rcases List.mem_cons.1 hm with h1 | h1
        · exact h1.symm
        · exact absurd ⟨m, h1, rfl⟩ hex
      rw [putAll_far vals ms _ m.dst (fun m' hm' hd => hex ⟨m', hm', hd⟩), hm0]
      exact slot_put_same hlt

theorem isT_of_mem {m : Told} (h : m ∈ ts) : isT ts m.idx = true := List.any_eq_true.2 ⟨m, h, by simp⟩
theorem isT_ex {i : Nat} (h : isT ts i = true) : ∃ m ∈ ts, m.idx = i := by
  obtain ⟨m, hm, he⟩ := List.any_eq_true.1 h
  exact ⟨m, hm, by simpa using he⟩

structure Inv (ops : Array Oper) (ts : List Told) (n B : Nat) (C : World → Prop) (aU a0 : Act) (listed : Array Bool) (a : Act) (w : World) (vals : Nat → Value) (lo hi : Nat → Nat) : Prop where
  head : HeadInv .any ops n listed
  c : C w
  big : B ≤ w.heap.size
  size : a.tmps.size = a0.tmps.size
  defers : a.defers = a0.defers
  near : ∀ i o d, i < n → ops[i]? = some o → o.dst = some d → listed.getD i false = true → slot a d = if isT ts i = true then vals i else valU ops aU i
  far : ∀ t, (∀ i o, i < n → ops[i]? = some o → listed.getD i false = true → o.dst ≠ some t) → slot a t = slot a0 t
  held : ∀ m ∈ ts, listed.getD m.idx false = true → m.rel (vals m.idx) (lo m.idx) (hi m.idx) w ∧ B ≤ lo m.idx ∧ lo m.idx ≤ hi m.idx ∧ hi m.idx ≤ w.heap.size
  inj : ∀ m ∈ ts, ∀ m' ∈ ts, listed.getD m.idx false = true → listed.getD m'.idx false = true → m.idx ≠ m'.idx → hi m.idx ≤ lo m'.idx ∨ hi m'.idx ≤ lo m.idx

theorem getD_set_self {listed : Array Bool} {i : Nat} (h : i < listed.size) (d : Bool) : (listed.setIfInBounds i true).getD i d = true := by simp [h]

section
variable {n sz : Nat} {C : World → Prop} {aU a0 : Act} {listed : Array Bool} {a : Act} {w : World} {vals : Nat → Value} {lo hi : Nat → Nat} {tl : List (Nat × Tmp)}

/-- The frame in which the walk ends, at these told values. -/
theorem slot_end (ok : MildOk ops n tl sz) (htl : tl = ts.map fun r => (r.idx, r.dst)) {A : Act} (hA : A = putAll ts vals aU) (hAs : A.tmps.size = sz) {j : Nat} {oj : Oper} {t : Tmp} (hj : j < n) (hoj : ops[j]? = some oj) (hd : oj.dst = some t) :
    slot A t = if isT ts j = true then vals j else valU ops aU j := by
  have told : ∀ m ∈ ts, m.idx < n ∧ ∃ o, ops[m.idx]? = some o ∧ o.dst = some m.dst := fun m hm => ok.tls (m.idx, m.dst) (by rw [htl]; exact List.mem_map.2 ⟨m, hm, rfl⟩)
  have uniq : ∀ m ∈ ts, m.dst = t → m.idx = j := fun m hm hmd => by
    obtain ⟨h1, o1, ho1, hd1⟩ := told m hm
    apply Classical.byContradiction
    intro hne
    exact ok.apart m.idx j o1 oj t h1 hj hne ho1 hoj hd (by rw [hd1, hmd])
  have hlt : t < aU.tmps.size := by rw [← (putAll_shape vals ts aU).1, ← hA, hAs]; exact ok.inb j oj t hj hoj hd
  by_cases hm : isT ts j = true
  · rw [if_pos hm]
    obtain ⟨m, hmm, he⟩ := isT_ex hm
    obtain ⟨_, o1, ho1, hd1⟩ := told m hmm
    have hdt : m.dst = t := by rw [he, hoj] at ho1; cases ho1; rw [hd] at hd1; exact (Option.some.inj hd1).symm
    rw [hA, ← hdt, putAll_near vals ts aU m hmm (by rw [hdt]; exact hlt), he]
    intro m' hm' hd2
    rw [uniq m' hm' (hd2.trans hdt), he]
  · rw [if_neg hm, hA, putAll_far vals ts aU t]
    · unfold valU dstOf; simp [hoj, hd]
    · intro m hmm hdt
      exact hm (by rw [← uniq m hmm hdt]; exact isT_of_mem hmm)

theorem Inv.look (ok : MildOk ops n tl sz) (htl : tl = ts.map fun r => (r.idx, r.dst)) (hsz : a0.tmps.size = sz) {A : Act} (hA : A = putAll ts vals aU) (hAs : A.tmps.size = sz) (inv : Inv ops ts n B C aU a0 listed a w vals lo hi) {i : Nat} {o : Oper} (hin : i < n) (ho : ops[i]? = some o)
    (hall : ∀ e ∈ o.after, Region.binds .any e = true → listed.getD e.on false = true) (t : Tmp) (ht : t ∈ o.looksAt ops) : slot a t = slot (frQ ops A a0 i) t := by
  by_cases hex : ∃ j oj, j < n ∧ ops[j]? = some oj ∧ oj.dst = some t
  · obtain ⟨j, oj, hj, hoj, hd⟩ := hex
    obtain ⟨h1, e, he, hb, hon⟩ := ok.looks i j o oj t hin hj ho hoj hd ht
    have hl : listed.getD j false = true := by rw [← hon]; exact hall e he hb
    have hdj : dstOf ops j = some t := by unfold dstOf; simpa [hoj] using hd
    rw [inv.near j oj t hj hoj hd hl, frQ_near ok hsz i (by omega) j h1 t hdj, slot_end ok htl hA hAs hj hoj hd]
  · rw [inv.far t (fun i o hi ho _ hd => hex ⟨i, o, hi, ho, hd⟩)]
    refine (frQ_far A a0 i t fun j hj hd => ?_).symm
    obtain ⟨oj, hoj⟩ := ok.ex j (by omega)
    exact hex ⟨j, oj, by omega, hoj, by unfold dstOf at hd; simpa [hoj] using hd⟩

theorem Inv.hyps (ok : MildOk ops n tl sz) (htl : tl = ts.map fun r => (r.idx, r.dst)) (hsz : a0.tmps.size = sz) {A : Act} (hA : A = putAll ts vals aU) (hAs : A.tmps.size = sz) (inv : Inv ops ts n B C aU a0 listed a w vals lo hi) {i : Nat} {o : Oper} (hin : i < n) (ho : ops[i]? = some o)
    (hall : ∀ e ∈ o.after, Region.binds .any e = true → listed.getD e.on false = true) : Hyps ops ts B o (frQ ops A a0 i) w := fun r hr hc => by
  have ht : r.dst ∈ o.looksAt ops := by rw [List.contains_eq_mem] at hc; exact of_decide_eq_true hc
  rw [← inv.look ok htl hsz hA hAs hin ho hall r.dst ht]
  obtain ⟨h1, o1, ho1, hd1⟩ := ok.tls (r.idx, r.dst) (by rw [htl]; exact List.mem_map.2 ⟨r, hr, rfl⟩)
  obtain ⟨_, e, he, hb, hon⟩ := ok.looks i r.idx o o1 r.dst hin h1 ho ho1 hd1 ht
  have hl : listed.getD r.idx false = true := by rw [← hon]; exact hall e he hb
  rw [inv.near r.idx o1 r.dst h1 ho1 hd1 hl, if_pos (isT_of_mem hr)]
  exact ⟨_, _, inv.held r hr hl⟩

theorem Inv.step (ok : MildOk ops n tl sz) (htl : tl = ts.map fun r => (r.idx, r.dst)) (hC : ∀ w w', C w → Below w.heap.size w w' → C w') (hR : ∀ r ∈ ts, ∀ v x y w w', r.rel v x y w → Below w.heap.size w w' → r.rel v x y w') (hsz : a0.tmps.size = sz) (inv : Inv ops ts n B C aU a0 listed a w vals lo hi) {i : Nat} {o : Oper} (hin : i < n) (ho : ops[i]? = some o)
    (hr : i ∈ Region.ready .any ops listed) {u : Value} {w' : World} (hb : Below w.heap.size w w') (hu : isT ts i = false → o.dst.isSome = true → u = valU ops aU i) (ht : ∀ r ∈ ts, r.idx = i → o.dst = some r.dst → r.rel u w.heap.size w'.heap.size w') :
    Inv ops ts n B C aU a0 (listed.setIfInBounds i true) (a.put o.dst u) w' (fun j => if j = i then u else vals j) (fun j => if j = i then w.heap.size else lo j) (fun j => if j = i then w'.heap.size else hi j) := by
  have his : i < listed.size := by rw [inv.head.size]; exact (Array.getElem?_eq_some_iff.1 ho).1
  have old : ∀ j, j ≠ i → (listed.setIfInBounds i true).getD j false = true → listed.getD j false = true := fun j hj h => by rwa [getD_set_ne false (Ne.symm hj)] at h
  refine ⟨inv.head.set hr hin, hC _ _ inv.c hb, Nat.le_trans inv.big hb.size, by rw [size_put]; exact inv.size, by rw [defers_put]; exact inv.defers, fun j oj d hj hoj hd hl => ?_, fun t htt => ?_, fun m hmm hl => ?_, fun m hmm m' hmm' hl hl' hne => ?_⟩
  · by_cases hji : j = i
    · subst hji
      rw [ho] at hoj; cases hoj
      rw [hd, slot_put_same (by rw [inv.size, hsz]; exact ok.inb j o d hj ho hd)]
      by_cases hT : isT ts j = true
      · rw [if_pos hT, if_pos rfl]
      · rw [if_neg hT]; exact hu (by simpa using hT) (by rw [hd]; rfl)
    · rw [slot_put_ne (ok.apart i j o oj d hin hj (Ne.symm hji) ho hoj hd), if_neg hji]
      exact inv.near j oj d hj hoj hd (old j hji hl)
  · rw [slot_put_ne (htt i o hin ho (getD_set_self his false))]
    exact inv.far t fun j oj hj hoj hl => htt j oj hj hoj (getD_set_true hl)
  · by_cases hmi : m.idx = i
    · simp only [if_pos hmi]
      obtain ⟨_, o1, ho1, hd1⟩ := ok.tls (m.idx, m.dst) (by rw [htl]; exact List.mem_map.2 ⟨m, hmm, rfl⟩)
      have : o1 = o := by simp only [hmi, ho] at ho1; cases ho1; rfl
      exact ⟨ht m hmm hmi (by rw [← this]; exact hd1), inv.big, hb.size, Nat.le_refl _⟩
    · simp only [if_neg hmi]
      obtain ⟨g1, g2, g3, g4⟩ := inv.held m hmm (old _ hmi hl)
      exact ⟨hR m hmm _ _ _ _ _ g1 hb, g2, g3, Nat.le_trans g4 hb.size⟩
  · by_cases h1 : m.idx = i
    · have h2 : m'.idx ≠ i := fun e => hne (h1.trans e.symm)
      simp only [if_pos h1, if_neg h2]
      exact .inr (inv.held m' hmm' (old _ h2 hl')).2.2.2
    · by_cases h2 : m'.idx = i
      · simp only [if_neg h1, if_pos h2]
        exact .inl (inv.held m hmm (old _ h1 hl)).2.2.2
      · simp only [if_neg h1, if_neg h2]
        exact inv.inj m hmm m' hmm' (old _ h1 hl) (old _ h2 hl') hne
end
theorem countP_set {p q : Nat → Bool} {i : Nat} (hp : p i = true) (hq : q i = false) (hne : ∀ j, j ≠ i → p j = q j) : ∀ n, i < n → (List.range n).countP p = (List.range n).countP q + 1
  | 0, h => by omega
  | n + 1, h => by
    rw [List.range_succ, List.countP_append, List.countP_append]
    by_cases hin : i = n
    · subst hin
      have hc : (List.range i).countP p = (List.range i).countP q := by
        refine List.countP_congr fun x hx => ?_
        rw [hne x (by have := List.mem_range.1 hx; omega)]
      simp [hc, hp, hq]
    · rw [countP_set hp hq hne n (by omega)]
      simp only [List.countP_singleton, hne n (by omega)]
      omega

/-- The least operation of the head that has not come up yet may come up. -/
theorem least_unlisted (listed : Array Bool) : ∀ k, (∀ j, j < k → listed.getD j true = true) ∨ ∃ i, i < k ∧ listed.getD i true = false ∧ ∀ j, j < i → listed.getD j true = true
  | 0 => .inl fun j hj => by omega
  | k + 1 => by
    rcases least_unlisted listed k with h | ⟨i, h1, h2, h3⟩
    · by_cases hk : listed.getD k true = true
      · exact .inl fun j hj => by
          by_cases hjk : j = k
          · rw [hjk]; exact hk
          · exact h j (by omega)
      · exact .inr ⟨k, by omega, by simpa using hk, h⟩
    · exact .inr ⟨i, by omega, h2, h3⟩

theorem getD_tf {listed : Array Bool} {i : Nat} (hi : i < listed.size) : listed.getD i true = listed.getD i false := by simp [hi]

section
variable {n sz : Nat} {C : World → Prop} {a0 : Act} {Q : Exit → Act → World → Prop} {tl : List (Nat × Tmp)}

theorem main (ok : MildOk ops n tl sz) (htl : tl = ts.map fun r => (r.idx, r.dst)) (hC : ∀ w w', C w → Below w.heap.size w w' → C w') (hR : ∀ r ∈ ts, ∀ v x y w w', r.rel v x y w → Below w.heap.size w w' → r.rel v x y w') (hsz : a0.tmps.size = sz)
    (A : (Nat → Value) → Act) (aU : Act) (hA : ∀ vals, A vals = putAll ts vals aU) (hfin : ∀ vals, frQ ops (A vals) a0 n = A vals)
    (HW : ∀ vals W, C W → ∀ i o, i < n → ops[i]? = some o → HQ P ops ts B (A vals) a0 W i o)
    (tail : List Oper) (htail : ∀ j, tail[j]? = ops[n + j]?) (htn : tail.length = ops.size - n)
    (HT : ∀ (vals : Nat → Value) (lo hi : Nat → Nat) (w : World), C w → (∀ m ∈ ts, m.rel (vals m.idx) (lo m.idx) (hi m.idx) w ∧ B ≤ lo m.idx ∧ lo m.idx ≤ hi m.idx ∧ hi m.idx ≤ w.heap.size) → (∀ m ∈ ts, ∀ m' ∈ ts, m.idx ≠ m'.idx → hi m.idx ≤ lo m'.idx ∨ hi m'.idx ≤ lo m.idx) → wpList P ops Q tail (A vals) w) :
    ∀ (c : Nat) (listed : Array Bool) (a : Act) (w : World) (vals : Nat → Value) (lo hi : Nat → Nat), Inv ops ts n B C aU a0 listed a w vals lo hi → (List.range n).countP (fun i => !listed.getD i true) = c →
      wpAny P .any ops Q (c + (ops.size - n)) listed a w
  | 0, listed, a, w, vals, lo, hi, inv, hc => by
    have hall : ∀ i, i < n → listed.getD i true = true := fun i hi => by
      have := List.countP_eq_zero.1 hc i (List.mem_range.2 hi)
      simpa using this
    have hall' : ∀ i, i < n → listed.getD i false = true := fun i hi => by
      rw [← getD_tf (by rw [inv.head.size]; exact Nat.lt_trans hi ok.lt)]; exact hall i hi
    have hlist : listed = (Array.range ops.size).map fun i => decide (i < n) := by
      apply Array.ext
      · simp [inv.head.size]
      · intro i h1 h2
        have hs : i < ops.size := by rw [← inv.head.size]; exact h1
        simp only [Array.getElem_map, Array.getElem_range]
        by_cases hin : i < n
        · have := hall i hin
          simp [h1] at this
          simp [this, hin]
        · have := inv.head.tail i (by omega) hs
          simp [h1] at this
          simp [this, hin]
    have hUs : (A vals).tmps.size = a0.tmps.size := by rw [← hfin vals]; exact (frQ_shape (A vals) a0 n).1
    have hUd : (A vals).defers = a0.defers := by rw [← hfin vals]; exact (frQ_shape (A vals) a0 n).2
    have hfr : a = A vals := by
      refine act_ext (by rw [inv.size, hUs]) (by rw [inv.defers, hUd]) fun t => ?_
      by_cases hex : ∃ i o, i < n ∧ ops[i]? = some o ∧ o.dst = some t
      · obtain ⟨i, o, hi, ho, hd⟩ := hex
        rw [inv.near i o t hi ho hd (hall' i hi), slot_end ok htl (hA vals) (hUs.trans hsz) hi ho hd]
      · rw [inv.far t (fun i o hi ho _ hd => hex ⟨i, o, hi, ho, hd⟩), ← hfin vals]
        refine (frQ_far (A vals) a0 n t fun j hj hd => ?_).symm
        obtain ⟨oj, hoj⟩ := ok.ex j hj
        exact hex ⟨j, oj, hj, hoj, by unfold dstOf at hd; simpa [hoj] using hd⟩
    have told : ∀ m ∈ ts, m.idx < n := fun m hm => (ok.tls (m.idx, m.dst) (by rw [htl]; exact List.mem_map.2 ⟨m, hm, rfl⟩)).1
    rw [Nat.zero_add, ← htn]
    refine wpAny_of_seq tail n listed a w htail (by rw [htn, hlist]; exact ok.seq) ?_
    rw [hfr]
    exact HT vals lo hi w inv.c (fun m hm => inv.held m hm (hall' _ (told m hm))) (fun m hm m' hm' hne => inv.inj m hm m' hm' (hall' _ (told m hm)) (hall' _ (told m' hm')) hne)
  | c + 1, listed, a, w, vals, lo, hi, inv, hc => by
    rw [show c + 1 + (ops.size - n) = (c + (ops.size - n)) + 1 by omega]
    obtain ⟨i0, hi0, hun0, hbefore⟩ : ∃ i, i < n ∧ listed.getD i true = false ∧ ∀ j, j < i → listed.getD j true = true := by
      rcases least_unlisted listed n with h | h
      · have : (List.range n).countP (fun i => !listed.getD i true) = 0 := List.countP_eq_zero.2 fun i hi => by simp [h i (List.mem_range.1 hi)]
        omega
      · exact h
    have hready : i0 ∈ Region.ready .any ops listed := by
      obtain ⟨o, ho⟩ := ok.ex i0 hi0
      refine mem_ready.2 ⟨hun0, o, ho, fun e he hb => ?_⟩
      have h1 := ok.edges i0 o hi0 ho e he hb
      rw [← getD_tf (by rw [inv.head.size]; have := ok.lt; omega)]
      exact hbefore _ h1
    refine ⟨fun h => (by rw [h] at hready; cases hready), fun i hr => ?_⟩
    have hin : i < n := by
      rcases Nat.lt_or_ge i n with h | h
      · exact h
      · exact absurd hr (tail_waits ok.sink ok.chain ok.lt inv.head _ i0 rfl hi0 hun0 i h)
    obtain ⟨hun, o, ho, hall⟩ := mem_ready.1 hr
    have his : i < listed.size := by rw [inv.head.size]; exact Nat.lt_trans hin ok.lt
    have hcount : (List.range n).countP (fun j => !(listed.setIfInBounds i true).getD j true) = c := by
      have := countP_set (p := fun j => !listed.getD j true) (q := fun j => !(listed.setIfInBounds i true).getD j true) (i := i) (by simp [hun]) (by simp [his]) (fun j hj => by simp only [getD_set_ne true (Ne.symm hj)]) n hin
      omega
    unfold wpOp
    simp only [ho]
    have hUs : (A vals).tmps.size = sz := by rw [← hfin vals, (frQ_shape (A vals) a0 n).1, hsz]
    have hl := fun t ht => inv.look ok htl hsz (hA vals) hUs hin ho hall t ht
    have hy := inv.hyps ok htl hsz (hA vals) hUs hin ho hall
    have hval : ∀ u : Value, isT ts i = false → o.dst.isSome = true → u = valU ops (A vals) i → u = valU ops aU i := fun u hT hs hu => by
      obtain ⟨d, hd⟩ := Option.isSome_iff_exists.1 hs
      have h2 := slot_end ok htl (hA vals) hUs hin ho hd
      rw [if_neg (by simp [hT])] at h2
      rw [hu, ← h2]
      unfold valU dstOf; simp [ho, hd]
    have hq := HW vals w inv.c i o hin ho hy (fun u w' => wpAny P .any ops Q (c + (ops.size - n)) (listed.setIfInBounds i true) (a.put o.dst u) w') (fun u w' hb hu ht =>
      main ok htl hC hR hsz A aU hA hfin HW tail htail htn HT c _ _ _ _ _ _ (inv.step ok htl hC hR hsz hin ho hr hb (fun hT hs => hval u hT hs (hu hT hs)) ht) hcount)
    rw [← wanted_same hl, ← exec_same (fun cs b => Region.noSelect_spec ok.sel i o cs b ho) hl] at hq
    rcases hq with ⟨hw, hq⟩ | ⟨hw, hq⟩
    · rw [if_pos hw]
      refine .inl ?_
      unfold Oper.wp
      generalize (execOp a.eval o).run P w = r at hq
      cases r with
      | ok nx w' =>
        cases nx <;> simp only [okv] at hq <;> simp only [Oper.upon]
        case value u => exact hq
        case skip => exact hq
        case enter f args => exact hq.mono fun e w'' ⟨v, hv, h⟩ => by subst hv; exact h
        case row row args => exact hq.mono fun v w'' h => h
      | halt x w' => simp only [okv] at hq
    · rw [if_neg (by simp [hw])]
      exact hq
end

theorem below_drawn (w : World) : Below w.heap.size w { w with drawn := w.drawn + 1 } := ⟨rfl, rfl, rfl, Nat.le_refl _, fun _ _ => rfl⟩

/-- **A REGION THAT DRAWS ITS ORDER, BY ONE WALK IN THE ORDER OF THE TEXT.** -/
theorem region_told {P : Program} {id : Nat} {Q : Exit → Act → World → Prop} {a0 : Act} {w : World} {l : List Oper} (n : Nat) (ts : List Told) (C : World → Prop) (hm : P.follows .mixedOrders = true)
    (tl : List (Nat × Tmp)) (htl : tl = ts.map fun r => (r.idx, r.dst)) (sz : Nat) (hB : mildB l.toArray n tl sz = true) (hsz : a0.tmps.size = sz) (hu : ∀ m ∈ ts, ∀ m' ∈ ts, m'.idx = m.idx → m' = m)
    (hC : ∀ w w', C w → Below w.heap.size w w' → C w') (hR : ∀ r ∈ ts, ∀ v x y w w', r.rel v x y w → Below w.heap.size w w' → r.rel v x y w') (h0 : C w)
    (H : ∃ A : (Nat → Value) → Act, (∀ vals W, C W → walkT P l.toArray ts w.heap.size vals W (A vals) 0 (l.take n) a0) ∧ (∀ vals, A vals = putAll ts vals (A fun _ => undef)) ∧
      ∀ (vals : Nat → Value) (lo hi : Nat → Nat) (w' : World), C w' → (∀ m ∈ ts, m.rel (vals m.idx) (lo m.idx) (hi m.idx) w' ∧ w.heap.size ≤ lo m.idx ∧ lo m.idx ≤ hi m.idx ∧ hi m.idx ≤ w'.heap.size) → (∀ m ∈ ts, ∀ m' ∈ ts, m.idx ≠ m'.idx → hi m.idx ≤ lo m'.idx ∨ hi m'.idx ≤ lo m.idx) → wpList P l.toArray Q (l.drop n) (A vals) w') :
    (Code.region id l.toArray true).wp P Q a0 w := by
  obtain ⟨A, HW, hA, HT⟩ := H
  have ok := mildB_spec hB
  have hn : n < l.length := by simpa using ok.lt
  have htk : (l.take n).length = n := by simp; omega
  have hhead : ∀ j, j < (l.take n).length → (l.take n)[j]? = l.toArray[0 + j]? := fun j hj => by
    have hj' : j < n := by rw [htk] at hj; exact hj
    simp [hj']
  have spec := fun vals W hW => walkT_spec (P := P) (W := W) (aU := A vals) ok hsz hu (l.take n) 0 hhead (by rw [htk]; omega) (HW vals W hW)
  have hw1 : C { w with drawn := w.drawn + 1 } := hC _ _ h0 (below_drawn w)
  have inv0 : Inv l.toArray ts n w.heap.size C (A fun _ => undef) a0 (Array.replicate l.toArray.size false) a0 { w with drawn := w.drawn + 1 } (fun _ => undef) (fun _ => 0) (fun _ => 0) :=
    { head := ⟨by simp, fun j oj _ hl => (by rw [getD_replicate_false] at hl; cases hl), fun t _ ht => getD_in (by simpa using ht) (getD_replicate_false _ _)⟩
      c := hw1
      big := Nat.le_refl _
      size := rfl
      defers := rfl
      near := fun i o d _ _ _ hl => by rw [getD_replicate_false] at hl; cases hl
      far := fun t _ => rfl
      held := fun m _ hl => by rw [getD_replicate_false] at hl; cases hl
      inj := fun m _ m' _ hl => by rw [getD_replicate_false] at hl; cases hl }
  refine wp_region_any hm ?_
  have hcnt : (List.range n).countP (fun i => !(Array.replicate l.toArray.size false).getD i true) = n := by
    have : (List.range n).countP (fun i => !(Array.replicate l.toArray.size false).getD i true) = (List.range n).length := by
      refine List.countP_eq_length.2 fun i hi => ?_
      have := List.mem_range.1 hi
      have h2 : i < l.toArray.size := by simp; omega
      simp [show i < l.length by omega]
    rw [this, List.length_range]
  have := main (P := P) (Q := Q) (B := w.heap.size) ok htl hC hR hsz A (A fun _ => undef) hA (fun vals => (spec vals _ hw1).1) (fun vals W hW i o hi ho => (spec vals W hW).2 i o (Nat.zero_le _) hi ho) (l.drop n) (fun j => by simp [List.getElem?_drop]) (by simp) HT n _ _ _ _ _ _ inv0 hcnt
  rwa [show n + (l.toArray.size - n) = l.toArray.size by simp; omega] at this

/-! ### The walk's steps -/
theorem walk_q {P : Program} {ops : Array Oper} {ts : List Told} {B : Nat} {vals : Nat → Value} {W : World} {aU a : Act} {k : Nat} {o : Oper} {rest : List Oper} (h : isT ts k = false) (hl : looksT ops ts o = false)
    (h2 : wpList P ops (MQ W a (fun _ a' => walkT P ops ts B vals W aU (k + 1) rest a')) [o] a W) : walkT P ops ts B vals W aU k (o :: rest) a := by
  unfold walkT; rw [if_neg (by simp [h]), if_neg (by simp [hl])]; exact h2
theorem walk_u {P : Program} {ops : Array Oper} {ts : List Told} {B : Nat} {vals : Nat → Value} {W : World} {aU a : Act} {k : Nat} {o : Oper} {rest : List Oper} (h : isT ts k = false) (hl : looksT ops ts o = true)
    (h2 : ∃ u, (Hyps ops ts B o a W → wpList P ops (MQ W a (fun _ a' => ∀ d, o.dst = some d → slot a' d = u)) [o] a W) ∧ walkT P ops ts B vals W aU (k + 1) rest (a.put o.dst u)) : walkT P ops ts B vals W aU k (o :: rest) a := by
  unfold walkT; rw [if_neg (by simp [h]), if_pos hl]; exact h2
theorem walk_t {P : Program} {ops : Array Oper} {ts : List Told} {B : Nat} {vals : Nat → Value} {W : World} {aU a : Act} {k : Nat} {o : Oper} {rest : List Oper} (r : Told) (hr : r ∈ ts) (hk : r.idx = k) (hu : ∀ m ∈ ts, m.idx = k → m = r)
    (h1 : Hyps ops ts B o a W → wpList P ops (MQ W a (fun w' a' => r.rel (slot a' r.dst) W.heap.size w'.heap.size w')) [o] a W) (h2 : walkT P ops ts B vals W aU (k + 1) rest (a.put o.dst (vals k))) : walkT P ops ts B vals W aU k (o :: rest) a := by
  have h : isT ts k = true := by rw [← hk]; exact isT_of_mem hr
  unfold walkT; rw [if_pos h]
  exact ⟨fun m hm he => by rw [hu m hm he]; exact h1, h2⟩
theorem walk_end {P : Program} {ops : Array Oper} {ts : List Told} {B : Nat} {vals : Nat → Value} {W : World} {aU a : Act} {k : Nat} (h : a = aU) : walkT P ops ts B vals W aU k [] a := h
end
end Go.Proofs.YtajccjbigcdkbaaGreatDoor.Tell
