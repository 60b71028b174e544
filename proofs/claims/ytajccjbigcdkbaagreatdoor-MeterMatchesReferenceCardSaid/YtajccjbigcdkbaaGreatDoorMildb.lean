/- The law of Mild, where a store into a new variable, too, may stand anywhere among the operations (late stores). -/
import Derived.StillTail
import Derived.Below
set_option linter.unusedSimpArgs false
set_option linter.unusedVariables false
namespace Go.Proofs.YtajccjbigcdkbaaGreatDoor.Mild2
open Go.RowKit

/-- What an operation hands on: a value, in a world. -/
def okv (P : Program) (K : Value → World → Prop) : Result Next → Prop
  | .ok (.value u) w => K u w
  | .ok .skip w => K undef w
  | .ok (.enter f args) w => Calls P f args w fun e w' => ∃ v, e = .returned v ∧ K v w'
  | .ok (.row row args) w => Rows P row args w fun v w' => K v w'
  | _ => False

/-- The end of one operation in the walk: the world has only grown; what follows is asked of the frame alone. -/
def MQ (W : World) (a : Act) (K : Act → Prop) (e : Exit) (a' : Act) (w' : World) : Prop := e = .normal ∧ a'.defers = a.defers ∧ Below W.heap.size W w' ∧ K a'

/-- A new variable: the number of its operation, its slot, what it holds at first. -/
structure Maker where
  idx : Nat
  dst : Tmp
  obj : Obj

/-- A store into a new variable: the number of its operation, the number of the operation that made the variable and its slot, the number of the operation that made the value and its slot, what the variable holds then. -/
structure Storer where
  idx : Nat
  own : Nat
  ptr : Tmp
  orig : Nat
  src : Tmp
  obj : Obj

section
variable (P : Program) (ops : Array Oper) (mks : List Maker) (sts : List Storer)

def isMk (k : Nat) : Bool := mks.any (·.idx == k)
def isSt (k : Nat) : Bool := sts.any (·.idx == k)
def isSk (k : Nat) : Bool := isMk mks k || isSt sts k

/-- The walk of the operations in the order of the text, each in the one world W; new variables are passed over. -/
def walkM (W : World) (aU : Act) : Nat → List Oper → Act → Prop
  | _, [], a => a = aU
  | k, o :: rest, a => if isSk mks sts k = true then walkM W aU (k + 1) rest a else wpList P ops (MQ W a (walkM W aU (k + 1) rest)) [o] a W

def dstOf (i : Nat) : Option Tmp := (ops[i]?).bind (·.dst)
end

section
variable {P : Program} {ops : Array Oper} {mks : List Maker} {sts : List Storer}

/-- The closed test. -/
def hasEdge (o : Oper) (j : Nat) : Bool := o.after.any (fun e => Region.binds .any e && e.on == j)
def mildB (ops : Array Oper) (n : Nat) (mks : List Maker) (sts : List Storer) (sz : Nat) : Bool :=
  Region.noSelect ops && decide (n < ops.size) && Region.sinkB .any ops n && Region.chainB .any ops n &&
  Region.seqB .any ops (ops.size - n) n ((Array.range ops.size).map fun i => decide (i < n)) &&
  (List.range n).all (fun i => match ops[i]? with
    | none => false
    | some o =>
      o.after.all (fun e => !Region.binds .any e || decide (e.on < i)) &&
      (match o.dst with | none => true | some d => decide (d < sz)) &&
      (List.range n).all (fun j => match ops[j]? with
        | none => false
        | some oj => match oj.dst with
          | none => true
          | some d => (i == j || o.dst != some d) && (isSt sts i || !(o.looksAt ops).contains d || (decide (j < i) && !isSk mks sts j && o.after.any (fun e => Region.binds .any e && e.on == j))))) &&
  mks.all (fun m => decide (m.idx < n) && match ops[m.idx]? with | none => false | some o => o.dst == some m.dst && o.guard.isNone) &&
  sts.all (fun s => decide (s.idx < n) && match ops[s.idx]? with | none => false | some o => o.dst.isNone && o.guard.isNone && hasEdge o s.own && hasEdge o s.orig && decide (s.own < n) && decide (s.orig < n) && isMk mks s.own && !isSk mks sts s.orig && dstOf ops s.own == some s.ptr && dstOf ops s.orig == some s.src && !isMk mks s.idx)

structure MildOk (ops : Array Oper) (n : Nat) (ml : List Maker) (sl : List Storer) (sz : Nat) : Prop where
  sel : Region.noSelect ops = true
  lt : n < ops.size
  sink : Region.sinkB .any ops n = true
  chain : Region.chainB .any ops n = true
  seq : Region.seqB .any ops (ops.size - n) n ((Array.range ops.size).map fun i => decide (i < n)) = true
  ex : ∀ i, i < n → ∃ o, ops[i]? = some o
  edges : ∀ i o, i < n → ops[i]? = some o → ∀ e ∈ o.after, Region.binds .any e = true → e.on < i
  inb : ∀ i o d, i < n → ops[i]? = some o → o.dst = some d → d < sz
  apart : ∀ i j o oj d, i < n → j < n → i ≠ j → ops[i]? = some o → ops[j]? = some oj → oj.dst = some d → o.dst ≠ some d
  looks : ∀ i j o oj d, i < n → j < n → ops[i]? = some o → ops[j]? = some oj → oj.dst = some d → isSt sl i = false → d ∈ o.looksAt ops → j < i ∧ isSk ml sl j = false ∧ ∃ e ∈ o.after, Region.binds .any e = true ∧ e.on = j
  mks : ∀ m ∈ ml, m.idx < n ∧ ∃ o, ops[m.idx]? = some o ∧ o.dst = some m.dst ∧ o.guard = none
  sts : ∀ s ∈ sl, s.idx < n ∧ ∃ o, ops[s.idx]? = some o ∧ o.dst = none ∧ o.guard = none ∧ hasEdge o s.own = true ∧ hasEdge o s.orig = true ∧ s.own < n ∧ s.orig < n ∧ isMk ml s.own = true ∧ isSk ml sl s.orig = false ∧ dstOf ops s.own = some s.ptr ∧ dstOf ops s.orig = some s.src ∧ isMk ml s.idx = false

theorem mildB_spec {n sz : Nat} (h : mildB ops n mks sts sz = true) : MildOk ops n mks sts sz := by
  simp only [mildB, Bool.and_eq_true, decide_eq_true_eq] at h
  obtain ⟨⟨⟨⟨⟨⟨⟨h1, h2⟩, h3⟩, h4⟩, h5⟩, h6⟩, h7⟩, h8⟩ := h
  have key : ∀ i, i < n → ∃ o, ops[i]? = some o ∧ (∀ e ∈ o.after, Region.binds .any e = true → e.on < i) ∧ (∀ d, o.dst = some d → d < sz) ∧
      ∀ j, j < n → ∀ oj d, ops[j]? = some oj → oj.dst = some d → (i ≠ j → o.dst ≠ some d) ∧ (isSt sts i = false → d ∈ o.looksAt ops → j < i ∧ isSk mks sts j = false ∧ ∃ e ∈ o.after, Region.binds .any e = true ∧ e.on = j) := by
    intro i hi
    have hh := List.all_eq_true.1 h6 i (List.mem_range.2 hi)
    cases ho : ops[i]? with
    | none => simp [ho] at hh
    | some o =>
      simp only [ho, Bool.and_eq_true] at hh
      obtain ⟨⟨g1, g2⟩, g3⟩ := hh
      refine ⟨o, rfl, fun e he hb => ?_, fun d hd => ?_, fun j hj oj d hoj hd => ?_⟩
      · have := Array.all_eq_true_iff_forall_mem.1 g1 e he
        simpa [hb] using this
      · simpa [hd] using g2
      · have := List.all_eq_true.1 g3 j (List.mem_range.2 hj)
        simp only [hoj, hd, Bool.and_eq_true, Bool.or_eq_true, beq_iff_eq, bne_iff_ne, Bool.not_eq_true', decide_eq_true_eq] at this
        obtain ⟨q1, q2⟩ := this
        refine ⟨fun hne => q1.resolve_left hne, fun hst hl => ?_⟩
        rcases q2 with (q2 | q2) | ⟨⟨q2, q3⟩, q4⟩
        · rw [hst] at q2; cases q2
        · rw [List.contains_eq_mem] at q2
          simp [hl] at q2
        · obtain ⟨e, he, hb⟩ := Array.any_eq_true'.1 q4
          simp only [Bool.and_eq_true, beq_iff_eq] at hb
          exact ⟨q2, q3, e, he, hb.1, hb.2⟩
  refine ⟨h1, h2, h3, h4, h5, fun i hi => ?_, fun i o hi ho => ?_, fun i o d hi ho hd => ?_, fun i j o oj d hi hj hne ho hoj hd => ?_, fun i j o oj d hi hj ho hoj hd hst hl => ?_, fun m hm => ?_, fun s hs => ?_⟩
  · obtain ⟨o, ho, _⟩ := key i hi; exact ⟨o, ho⟩
  · obtain ⟨o', ho', g, _⟩ := key i hi; rw [ho] at ho'; cases ho'; exact g
  · obtain ⟨o', ho', _, g, _⟩ := key i hi; rw [ho] at ho'; cases ho'; exact g d hd
  · obtain ⟨o', ho', _, _, g⟩ := key i hi; rw [ho] at ho'; cases ho'; exact (g j hj oj d hoj hd).1 hne
  · obtain ⟨o', ho', _, _, g⟩ := key i hi; rw [ho] at ho'; cases ho'; exact (g j hj oj d hoj hd).2 hst hl
  · have hh := List.all_eq_true.1 h7 m hm
    simp only [Bool.and_eq_true, decide_eq_true_eq] at hh
    refine ⟨hh.1, ?_⟩
    cases ho : ops[m.idx]? with
    | none => simp [ho] at hh
    | some o =>
      simp only [ho, Bool.and_eq_true, beq_iff_eq, Option.isNone_iff_eq_none] at hh
      exact ⟨o, rfl, hh.2.1, hh.2.2⟩
  · have hh := List.all_eq_true.1 h8 s hs
    simp only [Bool.and_eq_true, decide_eq_true_eq] at hh
    refine ⟨hh.1, ?_⟩
    cases ho : ops[s.idx]? with
    | none => simp [ho] at hh
    | some o =>
      simp only [ho, Bool.and_eq_true, beq_iff_eq, Option.isNone_iff_eq_none, decide_eq_true_eq, Bool.not_eq_true'] at hh
      obtain ⟨_, ⟨⟨⟨⟨⟨⟨⟨⟨⟨⟨a1, a2⟩, a3⟩, a4⟩, a5⟩, a6⟩, a7⟩, a8⟩, a9⟩, a10⟩, a11⟩⟩ := hh
      exact ⟨o, rfl, a1, a2, a3, a4, a5, a6, a7, a8, a9, a10, a11⟩

/-! ### Slots -/
def slot (a : Act) (t : Tmp) : Value := a.tmps.getD t undef

theorem slot_put_same {a : Act} {d : Tmp} {v : Value} (h : d < a.tmps.size) : slot (a.put (some d) v) d = v := by
  simp [slot, Act.put, h]
theorem slot_put_ne {a : Act} {dst : Option Tmp} {t : Tmp} {v : Value} (h : dst ≠ some t) : slot (a.put dst v) t = slot a t := by
  cases dst with
  | none => rfl
  | some d =>
    have hne : d ≠ t := fun e => h (by rw [e])
    simp [slot, Act.put, Array.getElem?_setIfInBounds_ne hne]
theorem size_put (a : Act) (dst : Option Tmp) (v : Value) : (a.put dst v).tmps.size = a.tmps.size := by cases dst <;> simp [Act.put]
theorem defers_put (a : Act) (dst : Option Tmp) (v : Value) : (a.put dst v).defers = a.defers := by cases dst <;> rfl
theorem act_ext {a b : Act} (h1 : a.tmps.size = b.tmps.size) (h2 : a.defers = b.defers) (h3 : ∀ t, slot a t = slot b t) : a = b := by
  obtain ⟨at_, ad⟩ := a
  obtain ⟨bt, bd⟩ := b
  dsimp only at *
  subst h2
  have : at_ = bt := by
    apply Array.ext h1
    intro i hi hi'
    have := h3 i
    simpa [slot, hi, hi'] using this
  rw [this]
theorem eval_slots {a b : Act} (x : Operand) (h : ∀ t, x = .tmp t → slot a t = slot b t) : a.eval x = b.eval x := by
  cases x with
  | tmp t => exact h t rfl
  | _ => rfl

theorem exec_same {o : Oper} {a b : Act} (hs : ∀ cs c, o.op ≠ .select cs c) (h : ∀ t, t ∈ o.looksAt ops → slot a t = slot b t) : execOp a.eval o = execOp b.eval o :=
  execOp_congr o hs fun x hx => eval_slots x fun t ht => h t (by
    unfold Oper.looksAt
    refine List.mem_append_left _ (List.mem_filterMap.2 ⟨x, by simpa using hx, ?_⟩)
    rw [ht])
theorem yielded_slot (a : Act) (j : Nat) : yielded ops a.tmps j = match dstOf ops j with
    | none => none
    | some t => match slot a t with | .bool b => some b | _ => none := by
  unfold yielded dstOf slot
  cases (ops[j]?).bind (·.dst) with
  | none => rfl
  | some t =>
    simp only [Option.bind_some]
    rw [Array.getD_eq_getD_getElem?]
    cases a.tmps[t]? with
    | none => rfl
    | some v => cases v <;> rfl
theorem wanted_same {o : Oper} {a b : Act} (h : ∀ t, t ∈ o.looksAt ops → slot a t = slot b t) : Region.wanted o (yielded ops a.tmps) = Region.wanted o (yielded ops b.tmps) := by
  unfold Region.wanted
  cases hg : o.guard with
  | none => rfl
  | some gw =>
    obtain ⟨g, want⟩ := gw
    have hy : yielded ops a.tmps g = yielded ops b.tmps g := by
      rw [yielded_slot, yielded_slot]
      cases ht : dstOf ops g with
      | none => rfl
      | some t =>
        have : slot a t = slot b t := h t (by unfold Oper.looksAt; rw [hg]; exact List.mem_append_right _ (by unfold dstOf at ht; simp [ht]))
        simp only [this]
    simp only [hy]

/-! ### What the walk shows of each operation -/
section
variable (ops mks sts)
/-- What operation i leaves in its slot, by the frame in which the walk ends. -/
def valU (aU : Act) (i : Nat) : Value := match dstOf ops i with | some d => slot aU d | none => undef
/-- The frame of the walk ahead of operation k. -/
def frQ (aU a0 : Act) : Nat → Act
  | 0 => a0
  | k + 1 => if isSk mks sts k = true then frQ aU a0 k else (frQ aU a0 k).put (dstOf ops k) (valU ops aU k)
end

theorem frQ_shape (aU a0 : Act) (k : Nat) : (frQ ops mks sts aU a0 k).tmps.size = a0.tmps.size ∧ (frQ ops mks sts aU a0 k).defers = a0.defers := by
  induction k with
  | zero => exact ⟨rfl, rfl⟩
  | succ k ih =>
    unfold frQ
    split
    · exact ih
    · exact ⟨by rw [size_put]; exact ih.1, by rw [defers_put]; exact ih.2⟩
theorem frQ_far (aU a0 : Act) (k : Nat) (t : Tmp) (h : ∀ j, j < k → isSk mks sts j = false → dstOf ops j ≠ some t) : slot (frQ ops mks sts aU a0 k) t = slot a0 t := by
  induction k with
  | zero => rfl
  | succ k ih =>
    unfold frQ
    split
    · exact ih fun j hj => h j (by omega)
    · rename_i hm
      rw [slot_put_ne (h k (by omega) (by simpa using hm))]
      exact ih fun j hj => h j (by omega)
theorem frQ_near {n sz : Nat} (ok : MildOk ops n mks sts sz) {aU a0 : Act} (hsz : a0.tmps.size = sz) (k : Nat) (hk : k ≤ n) (j : Nat) (hj : j < k) (hm : isSk mks sts j = false) (d : Tmp) (hd : dstOf ops j = some d) :
    slot (frQ ops mks sts aU a0 k) d = slot aU d := by
  induction k with
  | zero => omega
  | succ k ih =>
    obtain ⟨oj, hoj⟩ := ok.ex j (by omega)
    have hdj : oj.dst = some d := by unfold dstOf at hd; simpa [hoj] using hd
    unfold frQ
    by_cases hjk : j = k
    · subst hjk
      rw [if_neg (by simp [hm]), hd, slot_put_same (by rw [(frQ_shape aU a0 j).1, hsz]; exact ok.inb j oj d (by omega) hoj hdj)]
      unfold valU; rw [hd]
    · obtain ⟨o, ho⟩ := ok.ex k (by omega)
      have hne : dstOf ops k ≠ some d := by
        have := ok.apart k j o oj d (by omega) (by omega) (Ne.symm hjk) ho hoj hdj
        unfold dstOf; simpa [ho] using this
      split
      · exact ih (by omega) (by omega)
      · rw [slot_put_ne hne]; exact ih (by omega) (by omega)

/-- The slots that the rest of a walk does not write stay. -/
theorem walkM_keeps {W : World} {aU : Act} : ∀ (l : List Oper) (k : Nat) (a : Act) (t : Tmp), (∀ o ∈ l, o.dst ≠ some t) → walkM P ops mks sts W aU k l a → slot aU t = slot a t
  | [], _, a, t, _, h => by rw [show a = aU from h]
  | o :: l, k, a, t, hl, h => by
    unfold walkM at h
    split at h
    · exact walkM_keeps l (k + 1) a t (fun o' ho => hl o' (List.mem_cons_of_mem _ ho)) h
    · have hne := hl o (List.mem_cons_self ..)
      have rest : ∀ v w', MQ W a (walkM P ops mks sts W aU (k + 1) l) .normal (a.put o.dst v) w' → slot aU t = slot a t := fun v w' hq => by
        rw [walkM_keeps l (k + 1) _ t (fun o' ho => hl o' (List.mem_cons_of_mem _ ho)) hq.2.2.2]
        exact slot_put_ne hne
      unfold wpList at h
      split at h
      · rcases h with h | ⟨_, _, _, h⟩
        · unfold Oper.wp at h
          generalize (execOp a.eval o).run P W = r at h
          cases r with
          | ok nx w' =>
            cases nx <;> simp only [Oper.upon, wpList] at h
            case value u => exact rest _ _ h
            case skip => exact rest _ _ h
            case defer d =>
              have := h.2.1
              rw [defers_put] at this
              exact absurd this (by simp)
            case enter f args =>
              obtain ⟨e, w'', _, hR, _⟩ := h []
              cases e with
              | returned v => exact rest _ _ hR
              | panicked c => exact absurd hR.1 (by simp)
              | outgrown => obtain ⟨_, _, hR⟩ := hR; exact absurd hR.1 (by simp)
            case row row args =>
              obtain ⟨v, w'', hR, _⟩ := h default []
              exact rest _ _ hR
          | halt x w' =>
            cases x <;> simp only [Oper.upon] at h
            exact absurd h.1 (by simp)
        · exact absurd h.1 (by simp)
      · exact rest _ _ h

/-- What the walk shows of operation i, in the world W. -/
def HQ (P : Program) (ops : Array Oper) (mks : List Maker) (sts : List Storer) (aU a0 : Act) (W : World) (i : Nat) (o : Oper) : Prop :=
  (Region.wanted o (yielded ops (frQ ops mks sts aU a0 i).tmps) = true ∧ okv P (fun u w' => (o.dst.isSome = true → u = valU ops aU i) ∧ Below W.heap.size W w') ((execOp (frQ ops mks sts aU a0 i).eval o).run P W)) ∨
  (Region.wanted o (yielded ops (frQ ops mks sts aU a0 i).tmps) = false ∧ (o.dst.isSome = true → valU ops aU i = undef))

theorem walkM_spec {n sz : Nat} (ok : MildOk ops n mks sts sz) {W : World} {aU a0 : Act} (hsz : a0.tmps.size = sz) : ∀ (l : List Oper) (k : Nat), (∀ j, j < l.length → l[j]? = ops[k + j]?) → k + l.length = n →
    walkM P ops mks sts W aU k l (frQ ops mks sts aU a0 k) → frQ ops mks sts aU a0 n = aU ∧ ∀ i o, k ≤ i → i < n → isSk mks sts i = false → ops[i]? = some o → HQ P ops mks sts aU a0 W i o
  | [], k, _, hk, h => by
    have hkn : k = n := by simpa using hk
    subst hkn
    exact ⟨h, fun i o h1 h2 => by omega⟩
  | o :: l, k, hl, hk, h => by
    have hkn : k < n := by simp only [List.length_cons] at hk; omega
    have h0 : ops[k]? = some o := by simpa using (hl 0 (by simp)).symm
    have hl' : ∀ j, j < l.length → l[j]? = ops[k + 1 + j]? := fun j hj => by
      have := hl (j + 1) (by simp; omega)
      simpa [Nat.add_assoc, Nat.add_comm 1 j] using this
    have hk' : k + 1 + l.length = n := by simp only [List.length_cons] at hk; omega
    have hdst : dstOf ops k = o.dst := by unfold dstOf; simp [h0]
    unfold walkM at h
    by_cases hm : isSk mks sts k = true
    · rw [if_pos hm] at h
      have hf : frQ ops mks sts aU a0 (k + 1) = frQ ops mks sts aU a0 k := by (conv => (lhs; unfold frQ; rw [if_pos hm]))
      rw [← hf] at h
      obtain ⟨r1, r2⟩ := walkM_spec ok hsz l (k + 1) hl' hk' h
      refine ⟨r1, fun i o' h1 h2 h3 h4 => ?_⟩
      by_cases hik : i = k
      · subst hik; rw [hm] at h3; cases h3
      · exact r2 i o' (by omega) h2 h3 h4
    · rw [if_neg hm] at h
      have hm' : isSk mks sts k = false := by simpa using hm
      have hfar : ∀ d, o.dst = some d → ∀ o' ∈ l, o'.dst ≠ some d := fun d hd o' ho' => by
        obtain ⟨j, hj, hjo⟩ := List.mem_iff_getElem.1 ho'
        have hoj : ops[k + 1 + j]? = some o' := by rw [← hl' j hj]; simp [hj, hjo]
        exact ok.apart (k + 1 + j) k o' o d (by omega) hkn (by omega) hoj h0 hd
      have step : ∀ u w', MQ W (frQ ops mks sts aU a0 k) (walkM P ops mks sts W aU (k + 1) l) .normal ((frQ ops mks sts aU a0 k).put o.dst u) w' →
          ((o.dst.isSome = true → u = valU ops aU k) ∧ Below W.heap.size W w') ∧ walkM P ops mks sts W aU (k + 1) l (frQ ops mks sts aU a0 (k + 1)) := by
        intro u w' hq
        have hu : o.dst.isSome = true → u = valU ops aU k := fun hs => by
          obtain ⟨d, hd⟩ := Option.isSome_iff_exists.1 hs
          unfold valU
          rw [hdst, hd]
          dsimp only
          rw [walkM_keeps l (k + 1) _ d (hfar d hd) hq.2.2.2, hd, slot_put_same]
          rw [(frQ_shape aU a0 k).1, hsz]; exact ok.inb k o d hkn h0 hd
        refine ⟨⟨hu, hq.2.2.1⟩, ?_⟩
        have hf : frQ ops mks sts aU a0 (k + 1) = (frQ ops mks sts aU a0 k).put o.dst u := by
          conv => lhs; unfold frQ
          rw [if_neg hm, hdst]
          cases hd : o.dst with
          | none => rfl
          | some d => rw [hu (by rw [hd]; rfl)]
        rw [hf]; exact hq.2.2.2
      have fin : HQ P ops mks sts aU a0 W k o ∧ walkM P ops mks sts W aU (k + 1) l (frQ ops mks sts aU a0 (k + 1)) := by
        unfold HQ
        unfold wpList at h
        split at h
        · rename_i hw
          rcases h with h | ⟨_, _, _, h⟩
          · unfold Oper.wp at h
            generalize (execOp (frQ ops mks sts aU a0 k).eval o).run P W = r at h
            cases r with
            | ok nx w' =>
              cases nx <;> simp only [Oper.upon, wpList] at h
              case value u => have := step _ _ h; exact ⟨.inl ⟨hw, this.1⟩, this.2⟩
              case skip => have := step _ _ h; exact ⟨.inl ⟨hw, this.1⟩, this.2⟩
              case defer d =>
                have := h.2.1
                rw [defers_put] at this
                exact absurd this (by simp)
              case enter f args =>
                refine ⟨.inl ⟨hw, ?_⟩, ?_⟩
                · show Calls P f args w' _
                  refine h.mono fun e w'' hR => ?_
                  cases e with
                  | returned v => exact ⟨v, rfl, (step _ _ hR).1⟩
                  | panicked c => exact absurd hR.1 (by simp)
                  | outgrown => obtain ⟨_, _, hR⟩ := hR; exact absurd hR.1 (by simp)
                · obtain ⟨e, w'', _, hR, _⟩ := h []
                  cases e with
                  | returned v => exact (step _ _ hR).2
                  | panicked c => exact absurd hR.1 (by simp)
                  | outgrown => obtain ⟨_, _, hR⟩ := hR; exact absurd hR.1 (by simp)
              case row row args =>
                refine ⟨.inl ⟨hw, ?_⟩, ?_⟩
                · show Rows P row args w' _
                  exact h.mono fun v w'' hR => (step _ _ hR).1
                · obtain ⟨v, w'', hR, _⟩ := h default []
                  exact (step _ _ hR).2
            | halt x w' =>
              cases x <;> simp only [Oper.upon] at h
              exact absurd h.1 (by simp)
          · exact absurd h.1 (by simp)
        · rename_i hw
          have hst := step undef W h
          exact ⟨.inr ⟨by simpa using hw, fun hs => (hst.1.1 hs).symm⟩, hst.2⟩
      obtain ⟨r1, r2⟩ := walkM_spec ok hsz l (k + 1) hl' hk' fin.2
      refine ⟨r1, fun i o' h1 h2 h3 h4 => ?_⟩
      by_cases hik : i = k
      · subst hik; rw [h0] at h4; cases h4; exact fin.1
      · exact r2 i o' (by omega) h2 h3 h4

/-! ### Every order -/
def ptrTo (b : Nat) : Value := .pointer (some ⟨b, 0, none⟩)
/-- The frame with the new variables' pointers. -/
def putAll (F : Nat → Nat) (ms : List Maker) (a : Act) : Act := ms.foldl (fun a m => a.put (some m.dst) (ptrTo (F m.idx))) a

theorem putAll_shape (F : Nat → Nat) : ∀ (ms : List Maker) (a : Act), (putAll F ms a).tmps.size = a.tmps.size ∧ (putAll F ms a).defers = a.defers
  | [], _ => ⟨rfl, rfl⟩
  | m :: ms, a => by
    have h := putAll_shape F ms (a.put (some m.dst) (ptrTo (F m.idx)))
    rw [size_put, defers_put] at h
    exact h
theorem putAll_far (F : Nat → Nat) : ∀ (ms : List Maker) (a : Act) (t : Tmp), (∀ m ∈ ms, m.dst ≠ t) → slot (putAll F ms a) t = slot a t
  | [], _, _, _ => rfl
  | m :: ms, a, t, h => by
    have h1 := putAll_far F ms (a.put (some m.dst) (ptrTo (F m.idx))) t (fun m' hm => h m' (List.mem_cons_of_mem _ hm))
    have h2 : slot (a.put (some m.dst) (ptrTo (F m.idx))) t = slot a t := slot_put_ne (by simpa using h m (List.mem_cons_self ..))
    exact h1.trans h2
theorem putAll_near (F : Nat → Nat) : ∀ (ms : List Maker) (a : Act) (m : Maker), m ∈ ms → m.dst < a.tmps.size → (∀ m' ∈ ms, m'.dst = m.dst → F m'.idx = F m.idx) → slot (putAll F ms a) m.dst = ptrTo (F m.idx)
  | [], _, _, hm, _, _ => by cases hm
  | m0 :: ms, a, m, hm, hlt, h => by
    show slot (putAll F ms (a.put (some m0.dst) (ptrTo (F m0.idx)))) m.dst = _
    by_cases hex : ∃ m' ∈ ms, m'.dst = m.dst
    · obtain ⟨m', hm', hd⟩ := hex
      have hF := h m' (List.mem_cons_of_mem _ hm') hd
      have := putAll_near F ms (a.put (some m0.dst) (ptrTo (F m0.idx))) m' hm' (by rw [size_put, hd]; exact hlt) (fun m2 hm2 hd2 => (h m2 (List.mem_cons_of_mem _ hm2) (hd2.trans hd)).trans hF.symm)
      rw [← hd, this, hF]
    · have hm0 : m0 = m := by
        rcases List.mem_cons.1 hm with h1 | h1
        · exact h1.symm
        · exact absurd ⟨m, h1, rfl⟩ hex
      rw [putAll_far F ms _ m.dst (fun m' hm' hd => hex ⟨m', hm', hd⟩), hm0]
      exact slot_put_same hlt

theorem getD_tf {listed : Array Bool} {i : Nat} (hi : i < listed.size) : listed.getD i true = listed.getD i false := by simp [hi]
/-- What a new variable holds when these operations have come up. -/
def objNow (sts : List Storer) (listed : Array Bool) (m : Maker) : Obj := match sts.find? (fun s => s.own == m.idx && listed.getD s.idx false) with | some s => s.obj | none => m.obj
/-- What a new variable holds in the end. -/
def objFin (sts : List Storer) (m : Maker) : Obj := match sts.find? (fun s => s.own == m.idx) with | some s => s.obj | none => m.obj
theorem objNow_none {sts : List Storer} {listed : Array Bool} {m : Maker} (h : ∀ s ∈ sts, s.own = m.idx → listed.getD s.idx false = false) : objNow sts listed m = m.obj := by
  unfold objNow
  rw [List.find?_eq_none.2 fun s hs => ?_]
  simp only [Bool.and_eq_true, beq_iff_eq, not_and, Bool.not_eq_true]
  exact h s hs
theorem objNow_some {sts : List Storer} {listed : Array Bool} {m : Maker} {s : Storer} (hu : ∀ s ∈ sts, ∀ s' ∈ sts, s.own = s'.own → s = s') (hs : s ∈ sts) (ho : s.own = m.idx) (hl : listed.getD s.idx false = true) : objNow sts listed m = s.obj := by
  unfold objNow
  cases hf : sts.find? (fun s => s.own == m.idx && listed.getD s.idx false) with
  | none =>
    have := List.find?_eq_none.1 hf s hs
    exact absurd (by simp only [ho, beq_self_eq_true, Bool.true_and]; exact hl) this
  | some s' =>
    have h1 := List.find?_some hf
    have h2 := List.mem_of_find?_eq_some hf
    simp only [Bool.and_eq_true, beq_iff_eq] at h1
    rw [hu s' h2 s hs (h1.1.trans ho.symm)]
theorem objNow_same {sts : List Storer} {listed listed' : Array Bool} {m : Maker} (h : ∀ s ∈ sts, s.own = m.idx → listed'.getD s.idx false = listed.getD s.idx false) : objNow sts listed' m = objNow sts listed m := by
  unfold objNow
  have : sts.find? (fun s => s.own == m.idx && listed'.getD s.idx false) = sts.find? (fun s => s.own == m.idx && listed.getD s.idx false) := by
    induction sts with
    | nil => rfl
    | cons s ss ih =>
      simp only [List.find?_cons]
      have hq : (s.own == m.idx && listed'.getD s.idx false) = (s.own == m.idx && listed.getD s.idx false) := by
        by_cases hso : s.own = m.idx
        · rw [h s (List.mem_cons_self ..) hso]
        · rw [beq_eq_false_iff_ne.2 hso]; rfl
      rw [hq, ih fun s' hs' => h s' (List.mem_cons_of_mem _ hs')]
  rw [this]
theorem objNow_all {sts : List Storer} {listed : Array Bool} {m : Maker} (h : ∀ s ∈ sts, listed.getD s.idx false = true) : objNow sts listed m = objFin sts m := by
  unfold objNow objFin
  have : sts.find? (fun s => s.own == m.idx && listed.getD s.idx false) = sts.find? (fun s => s.own == m.idx) := by
    induction sts with
    | nil => rfl
    | cons s ss ih =>
      simp only [List.find?_cons, h s (List.mem_cons_self ..), Bool.and_true]
      rw [ih fun s' hs' => h s' (List.mem_cons_of_mem _ hs')]
  rw [this]
/-- Block b alone may differ. -/
structure Touch (b : Nat) (W W' : World) : Prop where
  os : W'.os = W.os
  tape : W'.tape = W.tape
  output : W'.output = W.output
  size : W'.heap.size = W.heap.size
  block : ∀ k, k ≠ b → W'.heap[k]? = W.heap[k]?

structure Inv (ops : Array Oper) (mks : List Maker) (sts : List Storer) (n B : Nat) (C : World → Prop) (aU a0 : Act) (listed : Array Bool) (a : Act) (w : World) (F : Nat → Nat) : Prop where
  head : HeadInv .any ops n listed
  c : C w
  big : B ≤ w.heap.size
  size : a.tmps.size = a0.tmps.size
  defers : a.defers = a0.defers
  near : ∀ i o d, i < n → ops[i]? = some o → o.dst = some d → listed.getD i false = true → slot a d = if isMk mks i = true then ptrTo (F i) else valU ops aU i
  far : ∀ t, (∀ i o, i < n → ops[i]? = some o → listed.getD i false = true → o.dst ≠ some t) → slot a t = slot a0 t
  held : ∀ m ∈ mks, listed.getD m.idx false = true → B ≤ F m.idx ∧ w.heap[F m.idx]? = some (objNow sts listed m)
  inj : ∀ m ∈ mks, ∀ m' ∈ mks, listed.getD m.idx false = true → listed.getD m'.idx false = true → m.idx ≠ m'.idx → F m.idx ≠ F m'.idx
  order : ∀ s ∈ sts, listed.getD s.idx false = true → listed.getD s.own false = true

theorem getD_set_self {listed : Array Bool} {i : Nat} (h : i < listed.size) (d : Bool) : (listed.setIfInBounds i true).getD i d = true := by simp [h]
theorem isMk_of_mem {m : Maker} (h : m ∈ mks) : isMk mks m.idx = true := List.any_eq_true.2 ⟨m, h, by simp⟩
theorem isMk_ex {i : Nat} (h : isMk mks i = true) : ∃ m ∈ mks, m.idx = i := by
  obtain ⟨m, hm, he⟩ := List.any_eq_true.1 h
  exact ⟨m, hm, by simpa using he⟩

section
variable {n B sz : Nat} {C : World → Prop} {aU a0 : Act} {listed : Array Bool} {a : Act} {w : World} {F : Nat → Nat}

theorem isSk_mk {i : Nat} (h : isSk mks sts i = false) : isMk mks i = false := (Bool.or_eq_false_iff.1 h).1
theorem isSk_st {i : Nat} (h : isSk mks sts i = false) : isSt sts i = false := (Bool.or_eq_false_iff.1 h).2
theorem Inv.look (ok : MildOk ops n mks sts sz) (hsz : a0.tmps.size = sz) (inv : Inv ops mks sts n B C aU a0 listed a w F) {i : Nat} {o : Oper} (hi : i < n) (hst : isSt sts i = false) (ho : ops[i]? = some o)
    (hall : ∀ e ∈ o.after, Region.binds .any e = true → listed.getD e.on false = true) (t : Tmp) (ht : t ∈ o.looksAt ops) : slot a t = slot (frQ ops mks sts aU a0 i) t := by
  by_cases hex : ∃ j oj, j < n ∧ ops[j]? = some oj ∧ oj.dst = some t
  · obtain ⟨j, oj, hj, hoj, hd⟩ := hex
    obtain ⟨h1, h2, e, he, hb, hon⟩ := ok.looks i j o oj t hi hj ho hoj hd hst ht
    have hl : listed.getD j false = true := by rw [← hon]; exact hall e he hb
    have hdj : dstOf ops j = some t := by unfold dstOf; simpa [hoj] using hd
    rw [inv.near j oj t hj hoj hd hl, if_neg (by simp [isSk_mk h2]), frQ_near ok hsz i (by omega) j h1 h2 t hdj]
    unfold valU; rw [hdj]
  · rw [inv.far t (fun i o hi ho _ hd => hex ⟨i, o, hi, ho, hd⟩)]
    refine (frQ_far aU a0 i t fun j hj _ hd => ?_).symm
    obtain ⟨oj, hoj⟩ := ok.ex j (by omega)
    exact hex ⟨j, oj, by omega, hoj, by unfold dstOf at hd; simpa [hoj] using hd⟩

theorem Inv.quiet (ok : MildOk ops n mks sts sz) (hC : ∀ w w', C w → Below w.heap.size w w' → C w') (hsz : a0.tmps.size = sz) (inv : Inv ops mks sts n B C aU a0 listed a w F) {i : Nat} {o : Oper} (hi : i < n) (ho : ops[i]? = some o)
    (hr : i ∈ Region.ready .any ops listed) (hk : isSk mks sts i = false) {u : Value} {w' : World} (hu : o.dst.isSome = true → u = valU ops aU i) (hb : Below w.heap.size w w') :
    Inv ops mks sts n B C aU a0 (listed.setIfInBounds i true) (a.put o.dst u) w' F := by
  have hm := isSk_mk hk
  have his : i < listed.size := by rw [inv.head.size]; exact (Array.getElem?_eq_some_iff.1 ho).1
  have old : ∀ j, j ≠ i → (listed.setIfInBounds i true).getD j false = true → listed.getD j false = true := fun j hj h => by rwa [getD_set_ne false (Ne.symm hj)] at h
  have mne : ∀ m ∈ mks, m.idx ≠ i := fun m hmm he => by have := isMk_of_mem hmm; rw [he, hm] at this; cases this
  refine ⟨inv.head.set hr hi, hC _ _ inv.c hb, Nat.le_trans inv.big hb.size, by rw [size_put]; exact inv.size, by rw [defers_put]; exact inv.defers, fun j oj d hj hoj hd hl => ?_, fun t ht => ?_, fun m hmm hl => ?_, fun m hmm m' hmm' hl hl' => ?_, fun s hs hl => ?_⟩
  · by_cases hji : j = i
    · subst hji
      rw [ho] at hoj; cases hoj
      rw [hd, slot_put_same (by rw [inv.size, hsz]; exact ok.inb j o d hj ho hd), if_neg (by simp [hm])]
      exact hu (by rw [hd]; rfl)
    · rw [slot_put_ne (ok.apart i j o oj d hi hj (Ne.symm hji) ho hoj hd)]
      exact inv.near j oj d hj hoj hd (old j hji hl)
  · rw [slot_put_ne (ht i o hi ho (getD_set_self his false))]
    exact inv.far t fun j oj hj hoj hl => ht j oj hj hoj (getD_set_true hl)
  · obtain ⟨h1, h2⟩ := inv.held m hmm (old _ (mne m hmm) hl)
    refine ⟨h1, ?_⟩
    rw [objNow_same (listed := listed) fun s hs _ => getD_set_ne false (fun e => ?_)]
    rotate_left
    · have := isSk_st hk
      have h3 : isSt sts i = true := List.any_eq_true.2 ⟨s, hs, by simp [e]⟩
      rw [this] at h3; cases h3
    rw [hb.block _ ?_]; exact h2
    exact (Array.getElem?_eq_some_iff.1 h2).1
  · exact inv.inj m hmm m' hmm' (old _ (mne m hmm) hl) (old _ (mne m' hmm') hl')
  · refine getD_set_true (inv.order s hs (old _ (fun e => ?_) hl))
    have := isSk_st hk
    have h3 : isSt sts i = true := List.any_eq_true.2 ⟨s, hs, by simp [e]⟩
    rw [this] at h3; cases h3

theorem Inv.make (ok : MildOk ops n mks sts sz) (hC : ∀ w w', C w → Below w.heap.size w w' → C w') (hsz : a0.tmps.size = sz) (inv : Inv ops mks sts n B C aU a0 listed a w F) {m : Maker} (hmm : m ∈ mks)
    (hu : ∀ m' ∈ mks, m'.idx = m.idx → m' = m) (hr : m.idx ∈ Region.ready .any ops listed) :
    Inv ops mks sts n B C aU a0 (listed.setIfInBounds m.idx true) (a.put (some m.dst) (ptrTo w.heap.size)) (w.alloc m.obj) (fun j => if j = m.idx then w.heap.size else F j) := by
  obtain ⟨hi, o, ho, hd0, _⟩ := ok.mks m hmm
  have his : m.idx < listed.size := by rw [inv.head.size]; exact (Array.getElem?_eq_some_iff.1 ho).1
  have old : ∀ j, j ≠ m.idx → (listed.setIfInBounds m.idx true).getD j false = true → listed.getD j false = true := fun j hj h => by rwa [getD_set_ne false (Ne.symm hj)] at h
  have hb : Below w.heap.size w (w.alloc m.obj) := (Below.refl _ _).alloc (Nat.le_refl _) _
  have sne : ∀ s ∈ sts, s.idx ≠ m.idx := fun s hs e => by
    obtain ⟨_, _, _, _, _, _, _, _, _, _, _, _, _, h⟩ := ok.sts s hs
    rw [e, isMk_of_mem hmm] at h; cases h
  refine ⟨inv.head.set hr hi, hC _ _ inv.c hb, Nat.le_trans inv.big hb.size, by rw [size_put]; exact inv.size, by rw [defers_put]; exact inv.defers, fun j oj d hj hoj hd hl => ?_, fun t ht => ?_, fun m' hm' hl => ?_, fun m1 hm1 m2 hm2 hl1 hl2 hne => ?_, fun s hs hl => getD_set_true (inv.order s hs (old _ (sne s hs) hl))⟩
  · by_cases hji : j = m.idx
    · subst hji
      rw [ho] at hoj; cases hoj
      rw [hd0] at hd; cases hd
      rw [slot_put_same (by rw [inv.size, hsz]; exact ok.inb m.idx o _ hj ho hd0), if_pos (isMk_of_mem hmm), if_pos rfl]
    · rw [slot_put_ne (by have := ok.apart m.idx j o oj d hi hj (Ne.symm hji) ho hoj hd; rwa [hd0] at this)]
      rw [inv.near j oj d hj hoj hd (old j hji hl), if_neg hji]
  · rw [slot_put_ne (by have := ht m.idx o hi ho (getD_set_self his false); rwa [hd0] at this)]
    exact inv.far t fun j oj hj hoj hl => ht j oj hj hoj (getD_set_true hl)
  · by_cases he : m'.idx = m.idx
    · rw [if_pos he, hu m' hm' he]
      rw [objNow_none fun s hs hso => ?_]
      rotate_left
      · rw [getD_set_ne false (Ne.symm (sne s hs))]
        cases hl2 : listed.getD s.idx false
        · rfl
        · have h3 := inv.order s hs hl2
          have h4 := (mem_ready.1 hr).1
          rw [getD_tf his, ← hso, h3] at h4
          cases h4
      exact ⟨inv.big, by show (w.heap.push m.obj)[w.heap.size]? = _; rw [Array.getElem?_push, if_pos rfl]⟩
    · rw [if_neg he]
      obtain ⟨h1, h2⟩ := inv.held m' hm' (old _ he hl)
      refine ⟨h1, ?_⟩
      rw [objNow_same (listed := listed) fun s hs _ => getD_set_ne false (Ne.symm (sne s hs))]
      rw [hb.block _ ?_]; exact h2
      exact (Array.getElem?_eq_some_iff.1 h2).1
  · by_cases h1 : m1.idx = m.idx
    · have h2 : m2.idx ≠ m.idx := fun e => hne (h1.trans e.symm)
      rw [if_pos h1, if_neg h2]
      have := (Array.getElem?_eq_some_iff.1 (inv.held m2 hm2 (old _ h2 hl2)).2).1
      omega
    · rw [if_neg h1]
      by_cases h2 : m2.idx = m.idx
      · rw [if_pos h2]
        have := (Array.getElem?_eq_some_iff.1 (inv.held m1 hm1 (old _ h1 hl1)).2).1
        omega
      · rw [if_neg h2]
        exact inv.inj m1 hm1 m2 hm2 (old _ h1 hl1) (old _ h2 hl2) hne

theorem Inv.store (ok : MildOk ops n mks sts sz) (hCt : ∀ W W' b, C W → B ≤ b → Touch b W W' → C W') (inv : Inv ops mks sts n B C aU a0 listed a w F) {s : Storer} (hs : s ∈ sts)
    (hus : ∀ s ∈ sts, ∀ s' ∈ sts, s.own = s'.own → s = s') (hui : ∀ s ∈ sts, ∀ s' ∈ sts, s.idx = s'.idx → s = s') {m : Maker} (hmm : m ∈ mks) (hme : m.idx = s.own) (hu : ∀ m' ∈ mks, m'.idx = m.idx → m' = m)
    (hr : s.idx ∈ Region.ready .any ops listed) (hml : listed.getD m.idx false = true) {w' : World} (ht : Touch (F m.idx) w w') (hb : w'.heap[F m.idx]? = some s.obj) :
    Inv ops mks sts n B C aU a0 (listed.setIfInBounds s.idx true) a w' F := by
  obtain ⟨hi, o, ho, hd0, _, _, _, _, _, _, _, _, _, hnm⟩ := ok.sts s hs
  have his : s.idx < listed.size := by rw [inv.head.size]; exact (Array.getElem?_eq_some_iff.1 ho).1
  have old : ∀ j, j ≠ s.idx → (listed.setIfInBounds s.idx true).getD j false = true → listed.getD j false = true := fun j hj h => by rwa [getD_set_ne false (Ne.symm hj)] at h
  have mne : ∀ m ∈ mks, m.idx ≠ s.idx := fun m hmm he => by have := isMk_of_mem hmm; rw [he, hnm] at this; cases this
  refine ⟨inv.head.set hr hi, hCt _ _ _ inv.c (inv.held m hmm hml).1 ht, by rw [ht.size]; exact inv.big, inv.size, inv.defers, fun j oj d hj hoj hd hl => ?_, fun t h => inv.far t fun j oj hj hoj hl => h j oj hj hoj (getD_set_true hl), fun m' hm' hl => ?_, fun m1 hm1 m2 hm2 hl1 hl2 hne => inv.inj m1 hm1 m2 hm2 (old _ (mne m1 hm1) hl1) (old _ (mne m2 hm2) hl2) hne, fun s' hs' hl => ?_⟩
  · have hji : j ≠ s.idx := fun e => by rw [e, ho] at hoj; cases hoj; rw [hd0] at hd; cases hd
    exact inv.near j oj d hj hoj hd (old j hji hl)
  · have hl0 := old _ (mne m' hm') hl
    obtain ⟨h1, h2⟩ := inv.held m' hm' hl0
    refine ⟨h1, ?_⟩
    by_cases he : m'.idx = m.idx
    · rw [hu m' hm' he, objNow_some hus hs hme.symm (getD_set_self his false)]; exact hb
    · rw [ht.block _ (inv.inj m' hm' m hmm hl0 hml he), objNow_same (listed := listed) fun s' hs' hso => getD_set_ne false fun e => ?_]
      · exact h2
      · have := hui s hs s' hs' e
        exact he (by rw [hme, this, hso])
  · by_cases he : s'.idx = s.idx
    · rw [hui s' hs' s hs he, ← hme]; exact getD_set_true hml
    · exact getD_set_true (inv.order s' hs' (old _ he hl))

theorem countP_set {p q : Nat → Bool} {i : Nat} (hp : p i = true) (hq : q i = false) (hne : ∀ j, j ≠ i → p j = q j) : ∀ n, i < n → (List.range n).countP p = (List.range n).countP q + 1
  | 0, h => by omega
  | n + 1, h => by
    rw [List.range_succ, List.countP_append, List.countP_append]
    by_cases hin : i = n
    · subst hin
      have hc : (List.range i).countP p = (List.range i).countP q := by
        refine List.countP_congr fun x hx => ?_
        rw [hne x (by have := List.mem_range.1 hx; omega)]
      simp [hc, hp, hq]
    · rw [countP_set hp hq hne n (by omega)]
      simp only [List.countP_singleton, hne n (by omega)]
      omega

/-- The least operation of the head that has not come up yet may come up. -/
theorem least_unlisted (listed : Array Bool) : ∀ k, (∀ j, j < k → listed.getD j true = true) ∨ ∃ i, i < k ∧ listed.getD i true = false ∧ ∀ j, j < i → listed.getD j true = true
  | 0 => .inl fun j hj => by omega
  | k + 1 => by
    rcases least_unlisted listed k with h | ⟨i, h1, h2, h3⟩
    · by_cases hk : listed.getD k true = true
      · exact .inl fun j hj => by
          by_cases hjk : j = k
          · rw [hjk]; exact hk
          · exact h j (by omega)
      · exact .inr ⟨k, by omega, by simpa using hk, h⟩
    · exact .inr ⟨i, by omega, h2, h3⟩


section
variable {n B sz : Nat} {C : World → Prop} {aU a0 : Act} {Q : Exit → Act → World → Prop}

theorem main (ok : MildOk ops n mks sts sz) (hCt : ∀ W W' b, C W → B ≤ b → Touch b W W' → C W') (hus : ∀ s ∈ sts, ∀ s' ∈ sts, s.own = s'.own → s = s') (hui : ∀ s ∈ sts, ∀ s' ∈ sts, s.idx = s'.idx → s = s')
    (HS : ∀ s ∈ sts, ∀ m ∈ mks, m.idx = s.own → ∀ o, ops[s.idx]? = some o → ∀ (a : Act) (b : Nat) (W : World), slot a s.ptr = ptrTo b → slot a s.src = slot aU s.src → W.heap[b]? = some m.obj → ∃ u W', (execOp a.eval o).run P W = .ok u W' ∧ (u = .skip ∨ ∃ v, u = .value v) ∧ Touch b W W' ∧ W'.heap[b]? = some s.obj)
    (hC : ∀ w w', C w → Below w.heap.size w w' → C w') (hsz : a0.tmps.size = sz) (hfin : frQ ops mks sts aU a0 n = aU)
    (hu : ∀ m ∈ mks, ∀ m' ∈ mks, m'.idx = m.idx → m' = m)
    (HM : ∀ m ∈ mks, ∀ o, ops[m.idx]? = some o → ∀ ρ W, (execOp ρ o).run P W = .ok (.value (ptrTo W.heap.size)) (W.alloc m.obj))
    (HW : ∀ W, C W → ∀ i o, i < n → isSk mks sts i = false → ops[i]? = some o → HQ P ops mks sts aU a0 W i o)
    (tail : List Oper) (htl : ∀ j, tail[j]? = ops[n + j]?) (htn : tail.length = ops.size - n)
    (HT : ∀ (F : Nat → Nat) (w : World), C w → (∀ m ∈ mks, B ≤ F m.idx ∧ w.heap[F m.idx]? = some (objFin sts m)) → (∀ m ∈ mks, ∀ m' ∈ mks, m.idx ≠ m'.idx → F m.idx ≠ F m'.idx) → wpList P ops Q tail (putAll F mks aU) w) :
    ∀ (c : Nat) (listed : Array Bool) (a : Act) (w : World) (F : Nat → Nat), Inv ops mks sts n B C aU a0 listed a w F → (List.range n).countP (fun i => !listed.getD i true) = c →
      wpAny P .any ops Q (c + (ops.size - n)) listed a w
  | 0, listed, a, w, F, inv, hc => by
    have hall : ∀ i, i < n → listed.getD i true = true := fun i hi => by
      have := List.countP_eq_zero.1 hc i (List.mem_range.2 hi)
      simpa using this
    have hall' : ∀ i, i < n → listed.getD i false = true := fun i hi => by
      rw [← getD_tf (by rw [inv.head.size]; exact Nat.lt_trans hi ok.lt)]; exact hall i hi
    have hlist : listed = (Array.range ops.size).map fun i => decide (i < n) := by
      apply Array.ext
      · simp [inv.head.size]
      · intro i h1 h2
        have hs : i < ops.size := by rw [← inv.head.size]; exact h1
        simp only [Array.getElem_map, Array.getElem_range]
        by_cases hin : i < n
        · have := hall i hin
          simp [h1] at this
          simp [this, hin]
        · have := inv.head.tail i (by omega) hs
          simp [h1] at this
          simp [this, hin]
    have hfr : a = putAll F mks aU := by
      have hUs : aU.tmps.size = a0.tmps.size := by rw [← hfin]; exact (frQ_shape aU a0 n).1
      have hUd : aU.defers = a0.defers := by rw [← hfin]; exact (frQ_shape aU a0 n).2
      refine act_ext (by rw [(putAll_shape F mks aU).1, inv.size, hUs]) (by rw [(putAll_shape F mks aU).2, inv.defers, hUd]) fun t => ?_
      by_cases hex : ∃ i o, i < n ∧ ops[i]? = some o ∧ o.dst = some t
      · obtain ⟨i, o, hi, ho, hd⟩ := hex
        rw [inv.near i o t hi ho hd (hall' i hi)]
        have hlt : t < aU.tmps.size := by rw [hUs, hsz]; exact ok.inb i o t hi ho hd
        by_cases hm : isMk mks i = true
        · rw [if_pos hm]
          obtain ⟨m, hmm, he⟩ := isMk_ex hm
          obtain ⟨_, o', ho', hd', _⟩ := ok.mks m hmm
          rw [he, ho] at ho'; cases ho'
          have hdt : m.dst = t := by rw [hd] at hd'; exact (Option.some.inj hd').symm
          rw [← hdt, putAll_near F mks aU m hmm (by rw [hdt]; exact hlt), he]
          intro m' hm' hd2
          obtain ⟨hi2, o2, ho2, hd3, _⟩ := ok.mks m' hm'
          by_cases he2 : m'.idx = m.idx
          · rw [he2]
          · exact absurd (by rw [hd3, hd2]) (ok.apart m'.idx i o2 o m.dst hi2 hi (fun e => he2 (e.trans he.symm)) ho2 ho (by rw [hd, hdt]))
        · rw [if_neg hm]
          rw [putAll_far F mks aU t]
          · unfold valU dstOf; simp [ho, hd]
          · intro m hmm hdt
            obtain ⟨hi2, o2, ho2, hd3, _⟩ := ok.mks m hmm
            refine ok.apart m.idx i o2 o t hi2 hi (fun e => hm (e ▸ isMk_of_mem hmm)) ho2 ho hd ?_
            rw [hd3, hdt]
      · rw [inv.far t (fun i o hi ho _ hd => hex ⟨i, o, hi, ho, hd⟩)]
        rw [putAll_far F mks aU t]
        · rw [← hfin]
          refine (frQ_far aU a0 n t fun j hj _ hd => ?_).symm
          obtain ⟨oj, hoj⟩ := ok.ex j hj
          exact hex ⟨j, oj, hj, hoj, by unfold dstOf at hd; simpa [hoj] using hd⟩
        · intro m hmm hdt
          obtain ⟨hi2, o2, ho2, hd3, _⟩ := ok.mks m hmm
          exact hex ⟨m.idx, o2, hi2, ho2, by rw [hd3, hdt]⟩
    rw [Nat.zero_add, ← htn]
    refine wpAny_of_seq tail n listed a w htl (by rw [htn, hlist]; exact ok.seq) ?_
    rw [hfr]
    exact HT F w inv.c (fun m hm => by have := inv.held m hm (hall' _ (ok.mks m hm).1); rwa [objNow_all fun s hs => hall' _ (ok.sts s hs).1] at this) (fun m hm m' hm' hne => inv.inj m hm m' hm' (hall' _ (ok.mks m hm).1) (hall' _ (ok.mks m' hm').1) hne)
  | c + 1, listed, a, w, F, inv, hc => by
    rw [show c + 1 + (ops.size - n) = (c + (ops.size - n)) + 1 by omega]
    obtain ⟨i0, hi0, hun0, hbefore⟩ : ∃ i, i < n ∧ listed.getD i true = false ∧ ∀ j, j < i → listed.getD j true = true := by
      rcases least_unlisted listed n with h | h
      · have : (List.range n).countP (fun i => !listed.getD i true) = 0 := List.countP_eq_zero.2 fun i hi => by simp [h i (List.mem_range.1 hi)]
        omega
      · exact h
    have hready : i0 ∈ Region.ready .any ops listed := by
      obtain ⟨o, ho⟩ := ok.ex i0 hi0
      refine mem_ready.2 ⟨hun0, o, ho, fun e he hb => ?_⟩
      have h1 := ok.edges i0 o hi0 ho e he hb
      rw [← getD_tf (by rw [inv.head.size]; have := ok.lt; omega)]
      exact hbefore _ h1
    refine ⟨fun h => (by rw [h] at hready; cases hready), fun i hr => ?_⟩
    have hin : i < n := by
      rcases Nat.lt_or_ge i n with h | h
      · exact h
      · exact absurd hr (tail_waits ok.sink ok.chain ok.lt inv.head _ i0 rfl hi0 hun0 i h)
    obtain ⟨hun, o, ho, hall⟩ := mem_ready.1 hr
    have his : i < listed.size := by rw [inv.head.size]; exact Nat.lt_trans hin ok.lt
    have hcount : (List.range n).countP (fun j => !(listed.setIfInBounds i true).getD j true) = c := by
      have := countP_set (p := fun j => !listed.getD j true) (q := fun j => !(listed.setIfInBounds i true).getD j true) (i := i) (by simp [hun]) (by simp [his]) (fun j hj => by simp only [getD_set_ne true (Ne.symm hj)]) n hin
      omega
    unfold wpOp
    simp only [ho]
    by_cases hm : isMk mks i = true
    · obtain ⟨m, hmm, he⟩ := isMk_ex hm
      subst he
      obtain ⟨_, o', ho', hd', hg'⟩ := ok.mks m hmm
      rw [ho] at ho'; cases ho'
      rw [if_pos (by unfold Region.wanted; rw [hg'])]
      refine .inl ?_
      unfold Oper.wp
      rw [HM m hmm o ho, Oper.upon_value, hd']
      exact main ok hCt hus hui HS hC hsz hfin hu HM HW tail htl htn HT c _ _ _ _ (inv.make ok hC hsz hmm (hu m hmm) hr) hcount
    · have hm0 : isMk mks i = false := by simpa using hm
      by_cases hst : isSt sts i = true
      · obtain ⟨s, hs, he⟩ := List.any_eq_true.1 hst
        have he : s.idx = i := by simpa using he
        subst he
        obtain ⟨_, o', ho', hd', hg', e1, e2, hi1, hi2, hmo, hko, dp, ds, _⟩ := ok.sts s hs
        rw [ho] at ho'; cases ho'
        obtain ⟨m, hmm, hme⟩ := isMk_ex hmo
        have edge : ∀ j, hasEdge o j = true → listed.getD j false = true := fun j hj => by
          obtain ⟨e, he, hb⟩ := Array.any_eq_true'.1 hj
          simp only [Bool.and_eq_true, beq_iff_eq] at hb
          rw [← hb.2]; exact hall e he hb.1
        have l1 : listed.getD m.idx false = true := by rw [hme]; exact edge _ e1
        have l2 := edge _ e2
        obtain ⟨om, hom⟩ := ok.ex s.own hi1
        obtain ⟨oo, hoo⟩ := ok.ex s.orig hi2
        have dm : om.dst = some s.ptr := by unfold dstOf at dp; simpa [hom] using dp
        have dd : oo.dst = some s.src := by unfold dstOf at ds; simpa [hoo] using ds
        have p1 := inv.near s.own om s.ptr hi1 hom dm (by rw [← hme]; exact l1)
        rw [if_pos hmo] at p1
        have p2 := inv.near s.orig oo s.src hi2 hoo dd l2
        rw [if_neg (by simp [isSk_mk hko])] at p2
        have p3 : slot a s.src = slot aU s.src := by rw [p2]; unfold valU; rw [ds]
        have hh := (inv.held m hmm l1).2
        rw [objNow_none fun s' hs' hso => ?_] at hh
        rotate_left
        · rw [hus s' hs' s hs (hso.trans hme), ← getD_tf his]; exact hun
        obtain ⟨u, w', hrun, hu2, htc, hb2⟩ := HS s hs m hmm hme o ho a (F m.idx) w (by rw [p1, hme]) p3 hh
        have fin := main ok hCt hus hui HS hC hsz hfin hu HM HW tail htl htn HT c _ _ _ F (inv.store ok hCt hs hus hui hmm hme (hu m hmm) hr l1 htc hb2) hcount
        rw [if_pos (by unfold Region.wanted; rw [hg'])]
        refine .inl ?_
        unfold Oper.wp
        rw [hrun]
        have hput : ∀ v, a.put o.dst v = a := fun v => by rw [hd']; rfl
        rcases hu2 with rfl | ⟨v, rfl⟩
        · simp only [Oper.upon]; rw [hput]; exact fin
        · simp only [Oper.upon]; rw [hput]; exact fin
      have hst' : isSt sts i = false := by simpa using hst
      have hm' : isSk mks sts i = false := Bool.or_eq_false_iff.2 ⟨hm0, hst'⟩
      have hl := fun t ht => inv.look ok hsz hin hst' ho hall t ht
      have hq := HW w inv.c i o hin hm' ho
      unfold HQ at hq
      rw [← wanted_same hl, ← exec_same (fun cs b => Region.noSelect_spec ok.sel i o cs b ho) hl] at hq
      have go : ∀ u w', (o.dst.isSome = true → u = valU ops aU i) ∧ Below w.heap.size w w' → wpAny P .any ops Q (c + (ops.size - n)) (listed.setIfInBounds i true) (a.put o.dst u) w' := fun u w' h =>
        main ok hCt hus hui HS hC hsz hfin hu HM HW tail htl htn HT c _ _ _ F (inv.quiet ok hC hsz hin ho hr hm' h.1 h.2) hcount
      rcases hq with ⟨hw, hq⟩ | ⟨hw, hq⟩
      · rw [if_pos hw]
        refine .inl ?_
        unfold Oper.wp
        generalize (execOp a.eval o).run P w = r at hq
        cases r with
        | ok nx w' =>
          cases nx <;> simp only [okv] at hq <;> simp only [Oper.upon]
          case value u => exact go _ _ hq
          case skip => exact go _ _ hq
          case enter f args => exact hq.mono fun e w'' ⟨v, hv, h⟩ => by subst hv; exact go _ _ h
          case row row args => exact hq.mono fun v w'' h => go _ _ h
        | halt x w' => simp only [okv] at hq
      · rw [if_neg (by simp [hw])]
        exact go undef w ⟨fun hs => (hq hs).symm, Below.refl _ _⟩
end

theorem below_drawn (w : World) : Below w.heap.size w { w with drawn := w.drawn + 1 } := ⟨rfl, rfl, rfl, Nat.le_refl _, fun _ _ => rfl⟩

/-- **A REGION THAT DRAWS ITS ORDER, BY ONE WALK IN THE ORDER OF THE TEXT.** -/
theorem wp_region_mild {id : Nat} {Q : Exit → Act → World → Prop} {a0 : Act} {w : World} {l : List Oper} (n : Nat) (mks : List Maker) (C : World → Prop) (aU : Act) (hm : P.follows .mixedOrders = true)
    (sts : List Storer) (sz : Nat) (hB : mildB l.toArray n mks sts sz = true) (hsz : a0.tmps.size = sz) (hu : ∀ m ∈ mks, ∀ m' ∈ mks, m'.idx = m.idx → m' = m)
    (hC : ∀ w w', C w → Below w.heap.size w w' → C w') (h0 : C w)
    (HM : ∀ m ∈ mks, ∀ o, l.toArray[m.idx]? = some o → ∀ ρ W, (execOp ρ o).run P W = .ok (.value (ptrTo W.heap.size)) (W.alloc m.obj))
    (hCt : ∀ W W' b, C W → w.heap.size ≤ b → Touch b W W' → C W') (hus : ∀ s ∈ sts, ∀ s' ∈ sts, s.own = s'.own → s = s') (hui : ∀ s ∈ sts, ∀ s' ∈ sts, s.idx = s'.idx → s = s')
    (HW : ∀ W, C W → walkM P l.toArray mks sts W aU 0 (l.take n) a0)
    (HS : ∀ s ∈ sts, ∀ m ∈ mks, m.idx = s.own → ∀ o, l.toArray[s.idx]? = some o → ∀ (a : Act) (b : Nat) (W : World), slot a s.ptr = ptrTo b → slot a s.src = slot aU s.src → W.heap[b]? = some m.obj → ∃ u W', (execOp a.eval o).run P W = .ok u W' ∧ (u = .skip ∨ ∃ v, u = .value v) ∧ Touch b W W' ∧ W'.heap[b]? = some s.obj)
    (HT : ∀ (F : Nat → Nat) (w' : World), C w' → (∀ m ∈ mks, w.heap.size ≤ F m.idx ∧ w'.heap[F m.idx]? = some (objFin sts m)) → (∀ m ∈ mks, ∀ m' ∈ mks, m.idx ≠ m'.idx → F m.idx ≠ F m'.idx) → wpList P l.toArray Q (l.drop n) (putAll F mks aU) w') :
    (Code.region id l.toArray true).wp P Q a0 w := by
  have ok := mildB_spec hB
  have hn : n < l.length := by simpa using ok.lt
  have htl : (l.take n).length = n := by simp; omega
  have hhead : ∀ j, j < (l.take n).length → (l.take n)[j]? = l.toArray[0 + j]? := fun j hj => by
    have hj' : j < n := by rw [htl] at hj; exact hj
    simp [hj']
  have spec := fun W hW => walkM_spec (P := P) (W := W) (aU := aU) ok hsz (l.take n) 0 hhead (by rw [htl]; omega) (HW W hW)
  have hw1 : C { w with drawn := w.drawn + 1 } := hC _ _ h0 (below_drawn w)
  have inv0 : Inv l.toArray mks sts n w.heap.size C aU a0 (Array.replicate l.toArray.size false) a0 { w with drawn := w.drawn + 1 } (fun _ => 0) :=
    { head := ⟨by simp, fun j oj _ hl => (by rw [getD_replicate_false] at hl; cases hl), fun t _ ht => getD_in (by simpa using ht) (getD_replicate_false _ _)⟩
      c := hw1
      big := Nat.le_refl _
      size := rfl
      defers := rfl
      near := fun i o d _ _ _ hl => by rw [getD_replicate_false] at hl; cases hl
      far := fun t _ => rfl
      held := fun m _ hl => by rw [getD_replicate_false] at hl; cases hl
      inj := fun m _ m' _ hl => by rw [getD_replicate_false] at hl; cases hl
      order := fun s _ hl => by rw [getD_replicate_false] at hl; cases hl }
  refine wp_region_any hm ?_
  have hcnt : (List.range n).countP (fun i => !(Array.replicate l.toArray.size false).getD i true) = n := by
    have : (List.range n).countP (fun i => !(Array.replicate l.toArray.size false).getD i true) = (List.range n).length := by
      refine List.countP_eq_length.2 fun i hi => ?_
      have := List.mem_range.1 hi
      have h2 : i < l.toArray.size := by simp; omega
      simp [show i < l.length by omega]
    rw [this, List.length_range]
  have := main (P := P) (Q := Q) (B := w.heap.size) ok hCt hus hui HS hC hsz (spec _ hw1).1 hu HM (fun W hW i o hi hmk ho => (spec W hW).2 i o (Nat.zero_le _) hi hmk ho) (l.drop n) (fun j => by simp [List.getElem?_drop]) (by simp) HT n _ _ _ _ inv0 hcnt
  rwa [show n + (l.toArray.size - n) = l.toArray.size by simp; omega] at this
end
end
end Go.Proofs.YtajccjbigcdkbaaGreatDoor.Mild2
