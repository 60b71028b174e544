/- The walk of SpanMods. -/
import Derived.Test.YtnihhchgnkfcgaaWrt
import Derived.Deep.DeepCutAuto
-- USEBDN
set_option linter.unusedSimpArgs false
set_option linter.unusedVariables false
namespace Go.Proofs.Ytnihhchgnkfcgaa
open Go.ChangeShapes Go.WideShapes Go.ChangeAt Go.RowKit
set_option maxRecDepth 100000 in
set_option maxHeartbeats 8000000 in
theorem mods_any (xa xb xc k n : Int) (w : World) (hx : RawB xa xb xc) (k0 : 0 ≤ k) (k1 : k ≤ 255) (n0 : -9223372036854775808 ≤ n) (n1 : n ≤ 9223372036854775807) :
    Calls Try.prog 6 #[rawv xa xb xc, .int .u8 k, .int .i64 n] w fun e w' => e = .returned (.bool true) ∧ Below w.heap.size w w' := by
  go_enter Try.func6, Try.ntmps6
  go_wp2_with (first | (go_at_call 10; refine (examples_any _).mono ?_; rintro e w1 ⟨rfl, hb⟩; obtain ⟨hc, hf⟩ := bcell hb; have hz := hb.size; (try simp at hz); have z0 : w.heap.size < w1.heap.size := (by omega); have c0 := fun o => hc (w.heap.size) o (by go_size); have f0 := fun o => hf (w.heap.size) o (by go_size); clear hc hf; have hB := bup (B := w.heap.size) (w := w) (by (repeat' (first | (with_reducible exact Below.refl _ _) | (with_reducible assumption) | (with_reducible refine Below.alloc ?_ ?_ _) | (with_reducible refine Below.drew ?_) | (with_reducible refine bdn ?_ _) | (with_reducible refine Below.setCell ?_ ?_ _) | go_size))) hb (by go_size); clear hb) | (go_at_call 11; (with_reducible refine (small_any xa xb xc _ hx.a1 hx.a2 hx.b1 hx.b2 hx.c1 hx.c2).mono ?_); rintro e w1 ⟨rfl, hb⟩; obtain ⟨hc, hf⟩ := bcell hb; have hz := hb.size; (try simp at hz); have z0 : w.heap.size < w1.heap.size := (by omega); have c0 := fun o => hc (w.heap.size) o (by go_size); have f0 := fun o => hf (w.heap.size) o (by go_size); clear hc hf; have hB := bup (B := w.heap.size) (w := w) (by (repeat' (first | (with_reducible exact Below.refl _ _) | (with_reducible assumption) | (with_reducible refine Below.alloc ?_ ?_ _) | (with_reducible refine Below.drew ?_) | (with_reducible refine bdn ?_ _) | (with_reducible refine Below.setCell ?_ ?_ _) | go_size))) hb (by go_size); clear hb))
  have hs := small_vld xa xb xc
  have bs := small_bd xa xb xc
  have hsl := hs.le
  generalize smallM xa xb xc = s at *
  obtain ⟨m, hm⟩ : ∃ m, m = k % 64 + 1 := ⟨_, rfl⟩
  rw [← hm]
  have m1 : 1 ≤ m := by omega
  have m2 : m ≤ 64 := by omega
  clear hm
  have HB0 : Is3 (w1.alloc (.cells #[.int .i64 s.lo, .int .i64 s.hi, .int .i64 s.st] 28)) w1.heap.size s := ⟨by simp, by simp, by simp⟩
  have HW0 : Below w.heap.size w (w1.alloc (.cells #[.int .i64 s.lo, .int .i64 s.hi, .int .i64 s.st] 28)) := by (repeat' (first | (with_reducible exact Below.refl _ _) | (with_reducible assumption) | (with_reducible refine Below.alloc ?_ ?_ _) | (with_reducible refine Below.drew ?_) | (with_reducible refine bdn ?_ _) | (with_reducible refine Below.setCell ?_ ?_ _) | go_size))
  have HS0 : w.heap.size ≤ (w1.alloc (.cells #[.int .i64 s.lo, .int .i64 s.hi, .int .i64 s.st] 28)).heap.size := by simp; omega
  generalize w1.heap.size = B at *
  generalize w1.alloc _ = w2 at *
  clear c0 f0 hB hz z0 w1
  clear c0 f0 hB hz z0 w1
  have hrest : Hid (∀ i j, (∀ k, k < j → elM s k ≤ s.hi) → s.hi < elM s j → sizeM (modM s m).s ≤ sizeM s → 0 ≤ i → i < m → hasB (modM s m).s i = hitB s m j i) := Lib.hid fun i j h1 h2 h3 h4 h5 => mods_end hs m1 (by omega) j h1 h2 h3 h4 h5
  have hmem : Hid (∀ a, Mem s a → hasB (modM s m).s (a % m) = true) := Lib.hid fun a ha => (hasB_iff _ _).2 (mod_mem m1 (by omega) ha)
  obtain ⟨re0, hrv, hr0, hr1⟩ := mod_vld s m1 (by omega)
  refine (lmod_any s m _ hs.bd).mono ?_
  generalize modM s m = r at *
  obtain ⟨r, re⟩ := r
  dsimp only at re0 hrv hr0 hr1 hrest hmem
  subst re0
  rintro e w3 ⟨rfl, hb⟩
  have HB1 := HB0.step hb
  have HW1 := HW0.trans (hb.mono HS0)
  have HS1 := Nat.le_trans HS0 hb.size
  clear HB0 HW0 HS0 hb w2
  have rl := hrv.le; have rp := hrv.pos; have rz := hrv.st0; have rst := hrv.stle
  have hvb := (vldB_iff r).2 hrv
  have RP := Lib.hid rp; clear rp
  have HA0 : Hid (ModA w B w3.heap.size s ⟨r, 0⟩ (w3.alloc (.cells #[.int .i64 r.lo, .int .i64 r.hi, .int .i64 r.st, .int .i64 0] 43))) := Lib.hid ⟨by (repeat' (first | (with_reducible exact Below.refl _ _) | (with_reducible assumption) | (with_reducible refine Below.alloc ?_ ?_ _) | (with_reducible refine Below.drew ?_) | (with_reducible refine bdn ?_ _) | (with_reducible refine Below.setCell ?_ ?_ _) | go_size)), by simp; omega, HB1.step (Below.alloc (Below.refl _ _) (Nat.le_refl _) _), ⟨⟨by simp, by simp, by simp⟩, by simp⟩⟩
  have BR : B < w3.heap.size := HB1.lt
  clear HB1
  go_upto_region 6 with fail
  generalize w3.alloc _ = w4 at *
  generalize w3.heap.size = R at *
  clear HW1 HS1 w3
  obtain ⟨⟨g0, g1, g2⟩, g3⟩ := HA0.out.fr
  dsimp only at g0 g1 g2 g3
  have hmk := fun W => make48 m (by omega) m2 W
  have d0 : decide (r.lo < 0) = false := by simpa using hr0
  have d1 : decide (m ≤ r.hi) = false := by simpa using hr1
  go_upto_region 9 with (first | (go_at_call 15; (with_reducible refine (valid_any r _).mono ?_); rw [hvb]; rintro e w5 ⟨rfl, hb⟩; replace HA0 := Lib.hid (ModA.step _ _ HA0.out hb); clear g0 g1 g2 g3; obtain ⟨g0, g1, g2⟩ := HA0.out.fs; obtain ⟨⟨q0, q1, q2⟩, q3⟩ := HA0.out.fr; dsimp only at q0 q1 q2 q3))
  have HC : Hid (ModC w B R w5.heap.size s ⟨r, 0⟩ m 0 (w5.alloc (.cells (madeCells #[.bool false] m.toNat) 4))) := Lib.hid ⟨ModA.step _ _ HA0.out (Below.alloc (Below.refl _ _) (Nat.le_refl _) _), by rw [hitC_zero]; exact alloc_at _ _⟩
  have lB : B < w5.heap.size := HA0.out.fs.lt
  have lR : R < w5.heap.size := HA0.out.fr.s.lt
  have lw : w.heap.size ≤ w5.heap.size := HA0.out.big
  clear g0 g1 g2 q0 q1 q2 q3 HA0 hmk d0 d1
  generalize w5.alloc _ = w6 at *
  generalize w5.heap.size = H at *
  clear hb w5
  have nB : B ≠ H := by omega
  have nR : R ≠ H := by omega
  obtain ⟨g0, g1, g2⟩ := HC.out.a.fs
  go_wp2_with fail
  clear g0 g1 g2
  have hsp := hs.st0
  go_loopw [12] (fun a wr => ∃ j : Nat, a = .int .i64 (elM s j) ∧ Hid (∀ k, k < j → elM s k ≤ s.hi) ∧ Hid (ModC w B R H s ⟨r, 0⟩ m j wr)) (fun a _ => (s.hi + 1 - intOf a).toNat)
  case atStart => exact ⟨0, congrArg (Value.int .i64) (by unfold elM; simp), Lib.hid (fun k hk => absurd hk (by omega)), HC⟩
  case round =>
    clear HC w6
    obtain ⟨j, rfl, hk, HC⟩ := hrel
    obtain ⟨a, ha⟩ : ∃ a, a = elM s j := ⟨_, rfl⟩
    rw [← ha]
    have a1 : s.lo ≤ a := by rw [ha]; have := elM_mono s (Nat.zero_le j); unfold elM at this ⊢; simp at this; omega
    obtain ⟨g0, g1, g2⟩ := HC.out.a.fs
    by_cases hlt : a ≤ s.hi
    · obtain ⟨em, hm⟩ := elM_mem hs j (by omega)
      rw [← ha] at hm em
      obtain ⟨z1, z2, z3, z4, z5⟩ := rest_eq a m1
      have Hm := Lib.hid (hmem.out a hm)
      obtain ⟨e, he⟩ : ∃ e, e = a % m := ⟨_, rfl⟩
      rw [← he] at Hm z1 z4 z5
      have Z1 := Lib.hid z1
      have hsuc := Lib.hid (elM_succ s j)
      have hel : Hid ((s.lo + j * s.st) % m = e) := Lib.hid (by rw [he, em])
      have HA := Lib.hid ha
      have b1 := Int.lt_tmod_of_pos a (b := m) (by omega)
      have b2 := Int.tmod_lt_of_pos a (b := m) (by omega)
      clear z1 he ha em hm
      go_upto_region 13 with fail
      rw [Z1.out]
      have cH : wr.cell? ⟨H, e.toNat, none⟩ = some (.bool (hitB s m j ((e.toNat : Nat) : Int))) := by
        rw [Mild.cell_of_block HC.out.fh]; exact hitC_at s m j _ (by omega)
      have fH : wr.frozen? ⟨H, e.toNat, none⟩ = false := Mild.free_of_block HC.out.fh _
      have HC2 := Lib.hid (HC.out.store lw nB nR e hel.out z4)
      have q0 : ∀ o, (wr.setCell ⟨H, e.toNat, none⟩ (.bool true)).cell? ⟨R, o, none⟩ = wr.cell? ⟨R, o, none⟩ := fun o => by
        have h3 := (touch_setCell wr H e.toNat (.bool true)).block R nR
        unfold World.cell?
        simp only [h3]
      obtain ⟨⟨p0, p1, p2⟩, p3⟩ := HC.out.a.fr
      dsimp only at p0 p1 p2 p3
      have ei : e.toNat < m.toNat := by omega
      have r0 := hrv.lo; have rh := hrv.hi
      go_wp2_with (first | (go_at_call 13; (with_reducible refine (has_any r e _ rz RP.out (by omega) (by omega) (by omega)).mono ?_); rw [Hm.out]; rintro e1 w7 ⟨rfl, hb⟩; replace HC2 := Lib.hid (ModC.step _ _ HC2.out hb); clear g0 g1 g2 p0 p1 p2 p3 q0 cH fH HC; obtain ⟨g0, g1, g2⟩ := HC2.out.a.fs))
      go_roundw
      case rel =>
        refine ⟨j + 1, congrArg (Value.int .i64) ?_, Lib.hid (fun k hkj => ?_), HC2⟩
        · rw [hsuc.out, ← HA.out]; congr 1; split <;> omega
        · by_cases e : k = j
          · rw [e, ← HA.out]; exact hlt
          · exact hk.out k (by omega)
      case measure => simp [intOf]; split <;> omega
    · have hend : s.hi < elM s j := by rw [← ha]; omega
      have Hend := Lib.hid hend; clear hend
      have HA := Lib.hid ha; clear ha
      have hge : s.hi < a := by omega
      go_wp2_with fail
      clear g0 g1 g2
      obtain ⟨wo, rfl⟩ : ∃ wo : World, wo = wr := ⟨_, rfl⟩
      rename_i K2 hK2
      have HK : ∀ (x0 x1 x3 x4 x5 x6 x9 x10 x11 x12 x13 x14 x15 x16 x17 x18 x19 x20 x21 x22 x23 x24 x25 x26 x27 x28 x29 x30 x31 x32 x33 x34 x35 x36 x37 x38 x39 x40 x41 x42 x43 x44 x45 x46 x47 x48 x49 x50 x51 x52 x53 x54 x55 x56 x57 x58 x59 x60 x61 x62 x63 x64 x65 x66 x67 x68 x69 x70 x71 x72 x73 x74 x75 x76 x77 x78 x79 x80 x81 x82 x83 x84 x85 x86 x87 x88 x89 x90 x91 x92 x93 x94 x95 x96 x97 x98 x99 x100 x101 x102 x103 x104 x105 x106 x107 x108 x109 x110 x111 x112 x113 x114 : Value) (W : World), Hid (ModA w B R s ⟨r, 0⟩ W) → K2 ⟨List.toArray (x0 :: x1 :: .int .i64 n :: x3 :: x4 :: x5 :: x6 :: .bool true :: .pointer (some ⟨B, 0, none⟩) :: x9 :: x10 :: x11 :: x12 :: x13 :: x14 :: x15 :: x16 :: x17 :: x18 :: x19 :: x20 :: x21 :: x22 :: x23 :: x24 :: x25 :: x26 :: x27 :: x28 :: x29 :: x30 :: x31 :: x32 :: x33 :: x34 :: x35 :: x36 :: x37 :: x38 :: x39 :: x40 :: x41 :: x42 :: x43 :: x44 :: x45 :: x46 :: x47 :: x48 :: x49 :: x50 :: x51 :: x52 :: x53 :: x54 :: x55 :: x56 :: x57 :: x58 :: x59 :: x60 :: x61 :: x62 :: x63 :: x64 :: x65 :: x66 :: x67 :: x68 :: x69 :: x70 :: x71 :: x72 :: x73 :: x74 :: x75 :: x76 :: x77 :: x78 :: x79 :: x80 :: x81 :: x82 :: x83 :: x84 :: x85 :: x86 :: x87 :: x88 :: x89 :: x90 :: x91 :: x92 :: x93 :: x94 :: x95 :: x96 :: x97 :: x98 :: x99 :: x100 :: x101 :: x102 :: x103 :: x104 :: x105 :: x106 :: x107 :: x108 :: x109 :: x110 :: x111 :: x112 :: x113 :: x114 :: []), []⟩ W := fun x0 x1 x3 x4 x5 x6 x9 x10 x11 x12 x13 x14 x15 x16 x17 x18 x19 x20 x21 x22 x23 x24 x25 x26 x27 x28 x29 x30 x31 x32 x33 x34 x35 x36 x37 x38 x39 x40 x41 x42 x43 x44 x45 x46 x47 x48 x49 x50 x51 x52 x53 x54 x55 x56 x57 x58 x59 x60 x61 x62 x63 x64 x65 x66 x67 x68 x69 x70 x71 x72 x73 x74 x75 x76 x77 x78 x79 x80 x81 x82 x83 x84 x85 x86 x87 x88 x89 x90 x91 x92 x93 x94 x95 x96 x97 x98 x99 x100 x101 x102 x103 x104 x105 x106 x107 x108 x109 x110 x111 x112 x113 x114 W h => hK2 _ _ (mods_tail w W B R s ⟨r, 0⟩ n x0 x1 x3 x4 x5 x6 x9 x10 x11 x12 x13 x14 x15 x16 x17 x18 x19 x20 x21 x22 x23 x24 x25 x26 x27 x28 x29 x30 x31 x32 x33 x34 x35 x36 x37 x38 x39 x40 x41 x42 x43 x44 x45 x46 x47 x48 x49 x50 x51 x52 x53 x54 x55 x56 x57 x58 x59 x60 x61 x62 x63 x64 x65 x66 x67 x68 x69 x70 x71 x72 x73 x74 x75 x76 x77 x78 x79 x80 x81 x82 x83 x84 x85 x86 x87 x88 x89 x90 x91 x92 x93 x94 x95 x96 x97 x98 x99 x100 x101 x102 x103 x104 x105 x106 x107 x108 x109 x110 x111 x112 x113 x114 hs h.out n0 n1)
      clear hK2
      go_loopw [14] (fun i wr => ∃ q : Nat, (q : Int) ≤ m ∧ i = .int .i64 q ∧ Hid (ModC w B R H s ⟨r, 0⟩ m j wr)) (fun i _ => (m - intOf i).toNat)
      case atStart => exact ⟨0, by omega, rfl, HC⟩
      case round =>
        clear HC wo
        obtain ⟨q, hq, rfl, HC⟩ := hrel
        have r0 := hrv.lo; have rh := hrv.hi
        by_cases hlt : (q : Int) < m
        · by_cases hsz : sizeM r ≤ sizeM s
          · have hE := Lib.hid (hrest.out q j hk.out Hend.out hsz (by omega) hlt)
            have hq2 : q < m.toNat := by omega
            cases hb2 : hitB s m j (q : Int)
            · rw [hb2] at hE
              go_wp2_with fail
              refine Mild.region_mild 16 [] (ModC w B R H s ⟨r, 0⟩ m j) (by kernel_rfl) 115 (by kernel_rfl) rfl (by simp) ModC.step HC.out (by simp) ?H19a
              apply Exists.intro
              refine ⟨?HW19a, ?HT19a⟩
              case HW19a =>
                intro W hW
                obtain ⟨g0, g1, g2⟩ := hW.a.fs
                obtain ⟨⟨p0, p1, p2⟩, p3⟩ := hW.a.fr
                dsimp only at p0 p1 p2 p3
                have cH : W.cell? ⟨H, q, none⟩ = some (.bool (hitB s m j ((q : Nat) : Int))) := by
                  rw [Mild.cell_of_block hW.fh]; exact hitC_at s m j _ (by omega)
                rw [hb2] at cH
                clear hW
                simp only [List.take_succ_cons, List.take_zero]
                repeat (apply Mild.walkM_q rfl; (go_wp2_with (first | (go_at_call 16; (with_reducible refine (size_any s _ hsp hsl (by omega) (by omega) (by omega)).mono ?_); rintro e w1 ⟨rfl, hb⟩) | (go_at_call 16; (with_reducible refine (size_any r _ rz rl (by omega) (by omega) (by omega)).mono ?_); rintro e w1 ⟨rfl, hb⟩) | (go_at_call 13; (with_reducible refine (has_any r (q : Int) _ rz RP.out (by omega) (by omega) (by omega)).mono ?_); rw [hE.out]; rintro e w1 ⟨rfl, hb⟩))); (first | refine ⟨rfl, rfl, Below.refl _ _, ?_⟩ | refine ⟨rfl, rfl, hb, ?_⟩))
                exact Mild.walkM_end rfl
              case HT19a =>
                intro F w9 hC u1 u2
                clear u1 u2
                simp only [List.drop_succ_cons, List.drop_zero, Mild.putAll, List.foldl_cons, List.foldl_nil, Mild.ptrTo, Act.put, List.setIfInBounds_toArray, List.set_cons_zero, List.set_cons_succ]
                clear F HC
                have HC := Lib.hid hC
                clear hC
                go_wp2_with fail
                go_roundw
                case rel => exact ⟨q + 1, by omega, congrArg (Value.int .i64) (by omega), HC⟩
                case measure => simp [intOf]; omega
            · rw [hb2] at hE
              go_wp2_with fail
              refine Mild.region_mild 16 [] (ModC w B R H s ⟨r, 0⟩ m j) (by kernel_rfl) 115 (by kernel_rfl) rfl (by simp) ModC.step HC.out (by simp) ?H19b
              apply Exists.intro
              refine ⟨?HW19b, ?HT19b⟩
              case HW19b =>
                intro W hW
                obtain ⟨g0, g1, g2⟩ := hW.a.fs
                obtain ⟨⟨p0, p1, p2⟩, p3⟩ := hW.a.fr
                dsimp only at p0 p1 p2 p3
                have cH : W.cell? ⟨H, q, none⟩ = some (.bool (hitB s m j ((q : Nat) : Int))) := by
                  rw [Mild.cell_of_block hW.fh]; exact hitC_at s m j _ (by omega)
                rw [hb2] at cH
                clear hW
                simp only [List.take_succ_cons, List.take_zero]
                repeat (apply Mild.walkM_q rfl; (go_wp2_with (first | (go_at_call 16; (with_reducible refine (size_any s _ hsp hsl (by omega) (by omega) (by omega)).mono ?_); rintro e w1 ⟨rfl, hb⟩) | (go_at_call 16; (with_reducible refine (size_any r _ rz rl (by omega) (by omega) (by omega)).mono ?_); rintro e w1 ⟨rfl, hb⟩) | (go_at_call 13; (with_reducible refine (has_any r (q : Int) _ rz RP.out (by omega) (by omega) (by omega)).mono ?_); rw [hE.out]; rintro e w1 ⟨rfl, hb⟩))); (first | refine ⟨rfl, rfl, Below.refl _ _, ?_⟩ | refine ⟨rfl, rfl, hb, ?_⟩))
                exact Mild.walkM_end rfl
              case HT19b =>
                intro F w9 hC u1 u2
                clear u1 u2
                simp only [List.drop_succ_cons, List.drop_zero, Mild.putAll, List.foldl_cons, List.foldl_nil, Mild.ptrTo, Act.put, List.setIfInBounds_toArray, List.set_cons_zero, List.set_cons_succ]
                clear F HC
                have HC := Lib.hid hC
                clear hC
                go_wp2_with fail
                go_roundw
                case rel => exact ⟨q + 1, by omega, congrArg (Value.int .i64) (by omega), HC⟩
                case measure => simp [intOf]; omega
          · have dsz : decide (sizeM r ≤ sizeM s) = false := by simpa using hsz
            clear hsz
            go_wp2_with fail
            refine Mild.region_mild 16 [] (ModC w B R H s ⟨r, 0⟩ m j) (by kernel_rfl) 115 (by kernel_rfl) rfl (by simp) ModC.step HC.out (by simp) ?H19c
            apply Exists.intro
            refine ⟨?HW19c, ?HT19c⟩
            case HW19c =>
              intro W hW
              obtain ⟨g0, g1, g2⟩ := hW.a.fs
              obtain ⟨⟨p0, p1, p2⟩, p3⟩ := hW.a.fr
              dsimp only at p0 p1 p2 p3
              clear hW
              simp only [List.take_succ_cons, List.take_zero]
              repeat (apply Mild.walkM_q rfl; (go_wp2_with (first | (go_at_call 16; (with_reducible refine (size_any s _ hsp hsl (by omega) (by omega) (by omega)).mono ?_); rintro e w1 ⟨rfl, hb⟩) | (go_at_call 16; (with_reducible refine (size_any r _ rz rl (by omega) (by omega) (by omega)).mono ?_); rintro e w1 ⟨rfl, hb⟩))); (first | refine ⟨rfl, rfl, Below.refl _ _, ?_⟩ | refine ⟨rfl, rfl, hb, ?_⟩))
              exact Mild.walkM_end rfl
            case HT19c =>
              intro F w9 hC u1 u2
              clear u1 u2
              simp only [List.drop_succ_cons, List.drop_zero, Mild.putAll, List.foldl_cons, List.foldl_nil, Mild.ptrTo, Act.put, List.setIfInBounds_toArray, List.set_cons_zero, List.set_cons_succ]
              clear F HC
              have HC := Lib.hid hC
              clear hC
              go_wp2_with fail
              go_roundw
              case rel => exact ⟨q + 1, by omega, congrArg (Value.int .i64) (by omega), HC⟩
              case measure => simp [intOf]; omega
        · have HE := Lib.hid HC.out.a
          clear HC
          go_wp2_with fail
          all_goals exact HE
end Go.Proofs.Ytnihhchgnkfcgaa

