/- SpanMods: the marks, and the last test as a text of its own. -/
import Derived.Test.YtnihhchgnkfcgaaClsb
import Derived.Test.YtnihhchgnkfcgaaPj
import Derived.Test.YtnihhchgnkfcgaaWqc
import Derived.Deep.DeepCutAuto
-- USEBDN
set_option linter.unusedSimpArgs false
set_option linter.unusedVariables false
namespace Go.Proofs.Ytnihhchgnkfcgaa
open Go.ChangeShapes Go.WideShapes Go.ChangeAt Go.RowKit
/-- The marks behind j elements. -/
def hitC (s : Sp) (m : Int) (j : Nat) : Array Value := (Array.range m.toNat).map fun (i : Nat) => .bool (hitB s m j (i : Int))
theorem hitC_at (s : Sp) (m : Int) (j : Nat) (i : Nat) (h : i < m.toNat) : (hitC s m j)[i]? = some (.bool (hitB s m j i)) := by simp [hitC, h]
theorem hitC_zero (s : Sp) (m : Int) : hitC s m 0 = madeCells #[.bool false] m.toNat := by
  unfold hitC madeCells
  simp only [hit_zero]
  apply Array.ext
  · simp
  · intro i h1 h2
    simp [Nat.mod_one]
theorem hitC_succ (s : Sp) (m : Int) (j : Nat) (e : Int) (he : (s.lo + j * s.st) % m = e) (h0 : 0 ≤ e) : (hitC s m j).setIfInBounds e.toNat (.bool true) = hitC s m (j + 1) := by
  unfold hitC
  apply Array.ext
  · simp
  · intro i h1 h2
    rw [Array.getElem_setIfInBounds (by simpa using h1)]
    simp only [Array.getElem_map, Array.getElem_range, hit_succ, he]
    by_cases hi : e.toNat = i
    · rw [if_pos hi]
      have : e = (i : Int) := by omega
      simp [this]
    · rw [if_neg hi]
      have : ¬ e = (i : Int) := by omega
      simp [this]
/-- What the memory holds: the span, its remainders. -/
structure ModA (w : World) (B R : Nat) (s : Sp) (r : Spe) (W : World) : Prop where
  below : Below w.heap.size w W
  big : w.heap.size ≤ W.heap.size
  fs : Is3 W B s
  fr : Is43 W R r
theorem ModA.step {w : World} {B R : Nat} {s : Sp} {r : Spe} : ∀ W W', ModA w B R s r W → Below W.heap.size W W' → ModA w B R s r W' :=
  fun _ _ h hb => ⟨h.below.trans (hb.mono h.big), Nat.le_trans h.big hb.size, h.fs.step hb, h.fr.step hb⟩
/-- .. and the marks behind j elements. -/
structure ModC (w : World) (B R H : Nat) (s : Sp) (r : Spe) (m : Int) (j : Nat) (W : World) : Prop where
  a : ModA w B R s r W
  fh : W.heap[H]? = some (.cells (hitC s m j) 4)
theorem ModC.step {w : World} {B R H : Nat} {s : Sp} {r : Spe} {m : Int} {j : Nat} : ∀ W W', ModC w B R H s r m j W → Below W.heap.size W W' → ModC w B R H s r m j W' :=
  fun _ _ h hb => ⟨ModA.step _ _ h.a hb, by rw [hb.block H (Mild.lt_of_block h.fh)]; exact h.fh⟩
theorem ModC.store {w : World} {B R H : Nat} {s : Sp} {r : Spe} {m : Int} {j : Nat} {W : World} (h : ModC w B R H s r m j W) (hH : w.heap.size ≤ H) (hB : B ≠ H) (hR : R ≠ H) (e : Int) (he : (s.lo + j * s.st) % m = e) (h0 : 0 ≤ e) :
    ModC w B R H s r m (j + 1) (W.setCell ⟨H, e.toNat, none⟩ (.bool true)) :=
  ⟨⟨h.a.below.setCell hH _, by simp [World.setCell]; exact h.a.big, is3_touch h.a.fs (touch_setCell _ _ _ _) hB, is43_touch h.a.fr (touch_setCell _ _ _ _) hR⟩, by
    rw [Joins.block_setCell (i := e.toNat) h.fh (.bool true), hitC_succ s m j e he h0]⟩
theorem alloc_at (w : World) (o : Obj) : (w.alloc o).heap[w.heap.size]? = some o := by
  unfold World.alloc
  exact Array.getElem?_push_size
theorem fldE (a b c d : Int) (w : World) : (Instr.field 43 (.agg #[.int .i64 a, .int .i64 b, .int .i64 c, .int .i64 d]) 1).run Try.prog w = .ok (.int .i64 d) w := by kernel_rfl
theorem make48 (m : Int) (h0 : 0 ≤ m) (h1 : m ≤ 64) (W : World) : (Instr.makeSlice 48 (.int .i64 m) (.int .i64 m)).run Try.prog W = .ok (.slice (some ⟨W.heap.size, 0, none⟩) m.toNat m.toNat) (W.alloc (.cells (madeCells #[.bool false] (m.toNat * 1)) 4)) := by
  obtain ⟨i, hi, hz0, hz1, hz2⟩ := info_parts (show (Try.prog.info? 4).map (fun i => (i.zero, i.size, i.bytes)) = some (some (.bool false), 1, 1) by kernel_rfl)
  have := run_make (P := Try.prog) W 48 4 i (.bool false) Try.underlying48 hi hz0 .i64 .i64 m m h0 (Int.le_refl _) (by rw [hz2]; omega) (by omega)
  rw [hz1] at this
  exact this


noncomputable def modsTail : Code := navC [1, 1, 1, 1, 1, 1, 1, 1, 1] (Try.f6.body.getD .skip)
set_option maxHeartbeats 4000000 in
theorem mods_tailA (w W : World) (B R : Nat) (s : Sp) (r v : Spe) (n : Int) (x0 x1 x3 x4 x5 x6 x9 x10 x11 x12 x13 x14 x15 x16 x17 x18 x19 x20 x21 x22 x23 x24 x25 x26 x27 x28 x29 x30 x31 x32 x33 x34 x35 x36 x37 x38 x39 x40 x41 x42 x43 x44 x45 x46 x47 x48 x49 x50 x51 x52 x53 x54 x55 x56 x57 x58 x59 x60 x61 x62 x63 x64 x65 x66 x67 x68 x69 x70 x71 x72 x73 x74 x75 x76 x77 x78 x79 x80 x81 x82 x83 x84 x85 x86 x87 x88 x89 x90 x91 x92 x93 x94 x95 x96 x97 x98 x99 x100 x101 x102 x103 x104 x105 x106 x107 x108 x109 x110 x111 x112 x113 x114 : Value) (hs : Vld s) (hC : ModA w B R s r W) (n0 : -9223372036854775808 ≤ n) (n1 : n ≤ 9223372036854775807) (HV : Hid (modM s n = v)) (he : v.e = 0) (c1 : 1 ≤ n) (c2 : n ≤ 1099511627776) :
    Code.wp Try.prog modsTail (bodyPost Try.prog Try.f6 fun e w' => e = .returned (.bool true) ∧ Below w.heap.size w w') ⟨List.toArray (x0 :: x1 :: .int .i64 n :: x3 :: x4 :: x5 :: x6 :: .bool true :: .pointer (some ⟨B, 0, none⟩) :: x9 :: x10 :: x11 :: x12 :: x13 :: x14 :: x15 :: x16 :: x17 :: x18 :: x19 :: x20 :: x21 :: x22 :: x23 :: x24 :: x25 :: x26 :: x27 :: x28 :: x29 :: x30 :: x31 :: x32 :: x33 :: x34 :: x35 :: x36 :: x37 :: x38 :: x39 :: x40 :: x41 :: x42 :: x43 :: x44 :: x45 :: x46 :: x47 :: x48 :: x49 :: x50 :: x51 :: x52 :: x53 :: x54 :: x55 :: x56 :: x57 :: x58 :: x59 :: x60 :: x61 :: x62 :: x63 :: x64 :: x65 :: x66 :: x67 :: x68 :: x69 :: x70 :: x71 :: x72 :: x73 :: x74 :: x75 :: x76 :: x77 :: x78 :: x79 :: x80 :: x81 :: x82 :: x83 :: x84 :: x85 :: x86 :: x87 :: x88 :: x89 :: x90 :: x91 :: x92 :: x93 :: x94 :: x95 :: x96 :: x97 :: x98 :: x99 :: x100 :: x101 :: x102 :: x103 :: x104 :: x105 :: x106 :: x107 :: x108 :: x109 :: x110 :: x111 :: x112 :: x113 :: x114 :: []), []⟩ W := by
  conv => arg 2; whnf
  have HC := Lib.hid hC; clear hC
  obtain ⟨v, x⟩ := v
  have fe : ∀ v : Sp, ∀ x : Int, ∀ W, (Instr.field 43 (spe ⟨v, x⟩) 1).run Try.prog W = .ok (.int .i64 x) W := fun v x W => fldE _ _ _ _ W
  dsimp only at he; subst he
  go_wp2_with fail
  refine Mild.region_mild 16 [] (ModA w B R s r) (by kernel_rfl) 115 (by kernel_rfl) rfl (by simp) ModA.step HC.out (by simp) ?H21
  apply Exists.intro
  refine ⟨?HW21, ?HT21⟩
  case HW21 =>
    intro W hW
    obtain ⟨g0, g1, g2⟩ := hW.fs
    clear hW
    simp only [List.take_succ_cons, List.take_zero]
    repeat (apply Mild.walkM_q rfl; (go_wp2_with (first | (go_at_call 24; refine (redge_any _).mono ?_; rintro e w1 ⟨rfl, rfl⟩) | (go_at_call 22; (with_reducible refine (lmod_any s n _ hs.bd).mono ?_); rw [HV.out]; rintro e w1 ⟨rfl, hb⟩))); (first | refine ⟨rfl, rfl, Below.refl _ _, ?_⟩ | refine ⟨rfl, rfl, hb, ?_⟩))
    exact Mild.walkM_end rfl
  case HT21 =>
    intro F w9 hC u1 u2
    clear u1 u2
    simp only [List.drop_succ_cons, List.drop_zero, Mild.putAll, List.foldl_cons, List.foldl_nil, Mild.ptrTo, Act.put, List.setIfInBounds_toArray, List.set_cons_zero, List.set_cons_succ]
    clear F HC
    have hB := hC.below
    clear hC
    go_wp2_with fail
    go_ret
    exact ⟨rfl, hB⟩
set_option maxHeartbeats 4000000 in
theorem mods_tailB (w W : World) (B R : Nat) (s : Sp) (r v : Spe) (n : Int) (x0 x1 x3 x4 x5 x6 x9 x10 x11 x12 x13 x14 x15 x16 x17 x18 x19 x20 x21 x22 x23 x24 x25 x26 x27 x28 x29 x30 x31 x32 x33 x34 x35 x36 x37 x38 x39 x40 x41 x42 x43 x44 x45 x46 x47 x48 x49 x50 x51 x52 x53 x54 x55 x56 x57 x58 x59 x60 x61 x62 x63 x64 x65 x66 x67 x68 x69 x70 x71 x72 x73 x74 x75 x76 x77 x78 x79 x80 x81 x82 x83 x84 x85 x86 x87 x88 x89 x90 x91 x92 x93 x94 x95 x96 x97 x98 x99 x100 x101 x102 x103 x104 x105 x106 x107 x108 x109 x110 x111 x112 x113 x114 : Value) (hs : Vld s) (hC : ModA w B R s r W) (n0 : -9223372036854775808 ≤ n) (n1 : n ≤ 9223372036854775807) (HV : Hid (modM s n = v)) (he : v.e = 1) (c1 : 1 ≤ n) (c2 : decide (n ≤ 1099511627776) = false) :
    Code.wp Try.prog modsTail (bodyPost Try.prog Try.f6 fun e w' => e = .returned (.bool true) ∧ Below w.heap.size w w') ⟨List.toArray (x0 :: x1 :: .int .i64 n :: x3 :: x4 :: x5 :: x6 :: .bool true :: .pointer (some ⟨B, 0, none⟩) :: x9 :: x10 :: x11 :: x12 :: x13 :: x14 :: x15 :: x16 :: x17 :: x18 :: x19 :: x20 :: x21 :: x22 :: x23 :: x24 :: x25 :: x26 :: x27 :: x28 :: x29 :: x30 :: x31 :: x32 :: x33 :: x34 :: x35 :: x36 :: x37 :: x38 :: x39 :: x40 :: x41 :: x42 :: x43 :: x44 :: x45 :: x46 :: x47 :: x48 :: x49 :: x50 :: x51 :: x52 :: x53 :: x54 :: x55 :: x56 :: x57 :: x58 :: x59 :: x60 :: x61 :: x62 :: x63 :: x64 :: x65 :: x66 :: x67 :: x68 :: x69 :: x70 :: x71 :: x72 :: x73 :: x74 :: x75 :: x76 :: x77 :: x78 :: x79 :: x80 :: x81 :: x82 :: x83 :: x84 :: x85 :: x86 :: x87 :: x88 :: x89 :: x90 :: x91 :: x92 :: x93 :: x94 :: x95 :: x96 :: x97 :: x98 :: x99 :: x100 :: x101 :: x102 :: x103 :: x104 :: x105 :: x106 :: x107 :: x108 :: x109 :: x110 :: x111 :: x112 :: x113 :: x114 :: []), []⟩ W := by
  conv => arg 2; whnf
  have HC := Lib.hid hC; clear hC
  obtain ⟨v, x⟩ := v
  have fe : ∀ v : Sp, ∀ x : Int, ∀ W, (Instr.field 43 (spe ⟨v, x⟩) 1).run Try.prog W = .ok (.int .i64 x) W := fun v x W => fldE _ _ _ _ W
  dsimp only at he; subst he
  go_wp2_with fail
  refine Mild.region_mild 16 [] (ModA w B R s r) (by kernel_rfl) 115 (by kernel_rfl) rfl (by simp) ModA.step HC.out (by simp) ?H21
  apply Exists.intro
  refine ⟨?HW21, ?HT21⟩
  case HW21 =>
    intro W hW
    obtain ⟨g0, g1, g2⟩ := hW.fs
    clear hW
    simp only [List.take_succ_cons, List.take_zero]
    repeat (apply Mild.walkM_q rfl; (go_wp2_with (first | (go_at_call 24; refine (redge_any _).mono ?_; rintro e w1 ⟨rfl, rfl⟩) | (go_at_call 22; (with_reducible refine (lmod_any s n _ hs.bd).mono ?_); rw [HV.out]; rintro e w1 ⟨rfl, hb⟩))); (first | refine ⟨rfl, rfl, Below.refl _ _, ?_⟩ | refine ⟨rfl, rfl, hb, ?_⟩))
    exact Mild.walkM_end rfl
  case HT21 =>
    intro F w9 hC u1 u2
    clear u1 u2
    simp only [List.drop_succ_cons, List.drop_zero, Mild.putAll, List.foldl_cons, List.foldl_nil, Mild.ptrTo, Act.put, List.setIfInBounds_toArray, List.set_cons_zero, List.set_cons_succ]
    clear F HC
    have hB := hC.below
    clear hC
    go_wp2_with fail
    go_ret
    exact ⟨rfl, hB⟩
set_option maxHeartbeats 4000000 in
theorem mods_tailC (w W : World) (B R : Nat) (s : Sp) (r v : Spe) (n : Int) (x0 x1 x3 x4 x5 x6 x9 x10 x11 x12 x13 x14 x15 x16 x17 x18 x19 x20 x21 x22 x23 x24 x25 x26 x27 x28 x29 x30 x31 x32 x33 x34 x35 x36 x37 x38 x39 x40 x41 x42 x43 x44 x45 x46 x47 x48 x49 x50 x51 x52 x53 x54 x55 x56 x57 x58 x59 x60 x61 x62 x63 x64 x65 x66 x67 x68 x69 x70 x71 x72 x73 x74 x75 x76 x77 x78 x79 x80 x81 x82 x83 x84 x85 x86 x87 x88 x89 x90 x91 x92 x93 x94 x95 x96 x97 x98 x99 x100 x101 x102 x103 x104 x105 x106 x107 x108 x109 x110 x111 x112 x113 x114 : Value) (hs : Vld s) (hC : ModA w B R s r W) (n0 : -9223372036854775808 ≤ n) (n1 : n ≤ 9223372036854775807) (HV : Hid (modM s n = v)) (he : v.e = 1) (c1 : decide (1 ≤ n) = false) :
    Code.wp Try.prog modsTail (bodyPost Try.prog Try.f6 fun e w' => e = .returned (.bool true) ∧ Below w.heap.size w w') ⟨List.toArray (x0 :: x1 :: .int .i64 n :: x3 :: x4 :: x5 :: x6 :: .bool true :: .pointer (some ⟨B, 0, none⟩) :: x9 :: x10 :: x11 :: x12 :: x13 :: x14 :: x15 :: x16 :: x17 :: x18 :: x19 :: x20 :: x21 :: x22 :: x23 :: x24 :: x25 :: x26 :: x27 :: x28 :: x29 :: x30 :: x31 :: x32 :: x33 :: x34 :: x35 :: x36 :: x37 :: x38 :: x39 :: x40 :: x41 :: x42 :: x43 :: x44 :: x45 :: x46 :: x47 :: x48 :: x49 :: x50 :: x51 :: x52 :: x53 :: x54 :: x55 :: x56 :: x57 :: x58 :: x59 :: x60 :: x61 :: x62 :: x63 :: x64 :: x65 :: x66 :: x67 :: x68 :: x69 :: x70 :: x71 :: x72 :: x73 :: x74 :: x75 :: x76 :: x77 :: x78 :: x79 :: x80 :: x81 :: x82 :: x83 :: x84 :: x85 :: x86 :: x87 :: x88 :: x89 :: x90 :: x91 :: x92 :: x93 :: x94 :: x95 :: x96 :: x97 :: x98 :: x99 :: x100 :: x101 :: x102 :: x103 :: x104 :: x105 :: x106 :: x107 :: x108 :: x109 :: x110 :: x111 :: x112 :: x113 :: x114 :: []), []⟩ W := by
  conv => arg 2; whnf
  have HC := Lib.hid hC; clear hC
  obtain ⟨v, x⟩ := v
  have fe : ∀ v : Sp, ∀ x : Int, ∀ W, (Instr.field 43 (spe ⟨v, x⟩) 1).run Try.prog W = .ok (.int .i64 x) W := fun v x W => fldE _ _ _ _ W
  dsimp only at he; subst he
  go_wp2_with fail
  refine Mild.region_mild 16 [] (ModA w B R s r) (by kernel_rfl) 115 (by kernel_rfl) rfl (by simp) ModA.step HC.out (by simp) ?H21
  apply Exists.intro
  refine ⟨?HW21, ?HT21⟩
  case HW21 =>
    intro W hW
    obtain ⟨g0, g1, g2⟩ := hW.fs
    clear hW
    simp only [List.take_succ_cons, List.take_zero]
    repeat (apply Mild.walkM_q rfl; (go_wp2_with (first | (go_at_call 22; (with_reducible refine (lmod_any s n _ hs.bd).mono ?_); rw [HV.out]; rintro e w1 ⟨rfl, hb⟩))); (first | refine ⟨rfl, rfl, Below.refl _ _, ?_⟩ | refine ⟨rfl, rfl, hb, ?_⟩))
    exact Mild.walkM_end rfl
  case HT21 =>
    intro F w9 hC u1 u2
    clear u1 u2
    simp only [List.drop_succ_cons, List.drop_zero, Mild.putAll, List.foldl_cons, List.foldl_nil, Mild.ptrTo, Act.put, List.setIfInBounds_toArray, List.set_cons_zero, List.set_cons_succ]
    clear F HC
    have hB := hC.below
    clear hC
    go_wp2_with fail
    go_ret
    exact ⟨rfl, hB⟩
theorem mods_tail (w W : World) (B R : Nat) (s : Sp) (r : Spe) (n : Int) (x0 x1 x3 x4 x5 x6 x9 x10 x11 x12 x13 x14 x15 x16 x17 x18 x19 x20 x21 x22 x23 x24 x25 x26 x27 x28 x29 x30 x31 x32 x33 x34 x35 x36 x37 x38 x39 x40 x41 x42 x43 x44 x45 x46 x47 x48 x49 x50 x51 x52 x53 x54 x55 x56 x57 x58 x59 x60 x61 x62 x63 x64 x65 x66 x67 x68 x69 x70 x71 x72 x73 x74 x75 x76 x77 x78 x79 x80 x81 x82 x83 x84 x85 x86 x87 x88 x89 x90 x91 x92 x93 x94 x95 x96 x97 x98 x99 x100 x101 x102 x103 x104 x105 x106 x107 x108 x109 x110 x111 x112 x113 x114 : Value) (hs : Vld s) (hC : ModA w B R s r W) (n0 : -9223372036854775808 ≤ n) (n1 : n ≤ 9223372036854775807) :
    Code.wp Try.prog modsTail (bodyPost Try.prog Try.f6 fun e w' => e = .returned (.bool true) ∧ Below w.heap.size w w') ⟨List.toArray (x0 :: x1 :: .int .i64 n :: x3 :: x4 :: x5 :: x6 :: .bool true :: .pointer (some ⟨B, 0, none⟩) :: x9 :: x10 :: x11 :: x12 :: x13 :: x14 :: x15 :: x16 :: x17 :: x18 :: x19 :: x20 :: x21 :: x22 :: x23 :: x24 :: x25 :: x26 :: x27 :: x28 :: x29 :: x30 :: x31 :: x32 :: x33 :: x34 :: x35 :: x36 :: x37 :: x38 :: x39 :: x40 :: x41 :: x42 :: x43 :: x44 :: x45 :: x46 :: x47 :: x48 :: x49 :: x50 :: x51 :: x52 :: x53 :: x54 :: x55 :: x56 :: x57 :: x58 :: x59 :: x60 :: x61 :: x62 :: x63 :: x64 :: x65 :: x66 :: x67 :: x68 :: x69 :: x70 :: x71 :: x72 :: x73 :: x74 :: x75 :: x76 :: x77 :: x78 :: x79 :: x80 :: x81 :: x82 :: x83 :: x84 :: x85 :: x86 :: x87 :: x88 :: x89 :: x90 :: x91 :: x92 :: x93 :: x94 :: x95 :: x96 :: x97 :: x98 :: x99 :: x100 :: x101 :: x102 :: x103 :: x104 :: x105 :: x106 :: x107 :: x108 :: x109 :: x110 :: x111 :: x112 :: x113 :: x114 :: []), []⟩ W := by
  by_cases c1 : 1 ≤ n
  · by_cases c2 : n ≤ 1099511627776
    · exact mods_tailA w W B R s r _ n x0 x1 x3 x4 x5 x6 x9 x10 x11 x12 x13 x14 x15 x16 x17 x18 x19 x20 x21 x22 x23 x24 x25 x26 x27 x28 x29 x30 x31 x32 x33 x34 x35 x36 x37 x38 x39 x40 x41 x42 x43 x44 x45 x46 x47 x48 x49 x50 x51 x52 x53 x54 x55 x56 x57 x58 x59 x60 x61 x62 x63 x64 x65 x66 x67 x68 x69 x70 x71 x72 x73 x74 x75 x76 x77 x78 x79 x80 x81 x82 x83 x84 x85 x86 x87 x88 x89 x90 x91 x92 x93 x94 x95 x96 x97 x98 x99 x100 x101 x102 x103 x104 x105 x106 x107 x108 x109 x110 x111 x112 x113 x114 hs hC n0 n1 (Lib.hid rfl) (mod_vld s c1 c2).1 c1 c2
    · exact mods_tailB w W B R s r _ n x0 x1 x3 x4 x5 x6 x9 x10 x11 x12 x13 x14 x15 x16 x17 x18 x19 x20 x21 x22 x23 x24 x25 x26 x27 x28 x29 x30 x31 x32 x33 x34 x35 x36 x37 x38 x39 x40 x41 x42 x43 x44 x45 x46 x47 x48 x49 x50 x51 x52 x53 x54 x55 x56 x57 x58 x59 x60 x61 x62 x63 x64 x65 x66 x67 x68 x69 x70 x71 x72 x73 x74 x75 x76 x77 x78 x79 x80 x81 x82 x83 x84 x85 x86 x87 x88 x89 x90 x91 x92 x93 x94 x95 x96 x97 x98 x99 x100 x101 x102 x103 x104 x105 x106 x107 x108 x109 x110 x111 x112 x113 x114 hs hC n0 n1 (Lib.hid rfl) (by unfold modM; rw [if_neg (by omega)]) c1 (by simpa using c2)
  · exact mods_tailC w W B R s r _ n x0 x1 x3 x4 x5 x6 x9 x10 x11 x12 x13 x14 x15 x16 x17 x18 x19 x20 x21 x22 x23 x24 x25 x26 x27 x28 x29 x30 x31 x32 x33 x34 x35 x36 x37 x38 x39 x40 x41 x42 x43 x44 x45 x46 x47 x48 x49 x50 x51 x52 x53 x54 x55 x56 x57 x58 x59 x60 x61 x62 x63 x64 x65 x66 x67 x68 x69 x70 x71 x72 x73 x74 x75 x76 x77 x78 x79 x80 x81 x82 x83 x84 x85 x86 x87 x88 x89 x90 x91 x92 x93 x94 x95 x96 x97 x98 x99 x100 x101 x102 x103 x104 x105 x106 x107 x108 x109 x110 x111 x112 x113 x114 hs hC n0 n1 (Lib.hid rfl) (by unfold modM; rw [if_neg (by omega)]) (by simpa using c1)
end Go.Proofs.Ytnihhchgnkfcgaa

