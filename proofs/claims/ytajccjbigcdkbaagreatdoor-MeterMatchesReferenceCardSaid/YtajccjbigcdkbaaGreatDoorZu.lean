/- MeterMatchesReference: the reports. -/
import Derived.Test.YtajccjbigcdkbaaGreatDoorZq
import Derived.Test.YtajccjbigcdkbaaGreatDoorZs
import Derived.Test.YtajccjbigcdkbaaGreatDoorPd
-- USEBDN
set_option linter.unusedSimpArgs false
set_option linter.unusedVariables false
namespace Go.Proofs.YtajccjbigcdkbaaGreatDoor
open Go.ChangeShapes Go.WideShapes Go.ChangeAt Go.RowKit
/-- While the reports are compared. -/
structure C15 (w0 : World) (Pb : Nat) (p : Co) (g9 : Nat) (kc : Array Value) (S c n : Nat) (cur : Array Value) (W : World) : Prop where
  below : Below w0.heap.size w0 W
  big : w0.heap.size ≤ W.heap.size
  pb : W.heap[Pb]? = some (.cells (coc p) 23)
  l : W.heap[g9]? = some (.cells kc 23)
  s : W.heap[S]? = some (.cells cur 23) ∨ (n + 1 ≤ c ∧ W.heap[S]? = some (.cells (upd cur n p) 23))
theorem C15.lt {w0 : World} {Pb : Nat} {p : Co} {g9 : Nat} {kc : Array Value} {S c n : Nat} {cur : Array Value} {W : World} (h : C15 w0 Pb p g9 kc S c n cur W) : S < W.heap.size := by
  rcases h.s with h | ⟨_, h⟩ <;> exact Mild.lt_of_block h
theorem C15.grow {w0 : World} {Pb : Nat} {p : Co} {g9 : Nat} {kc : Array Value} {S c n : Nat} {cur : Array Value} (hS : w0.heap.size ≤ S) (hP : Pb ≠ S) (hg : g9 ≠ S) : ∀ W W', C15 w0 Pb p g9 kc S c n cur W → (gwS S (n + 1 ≤ c) (.cells (upd cur n p) 23)).rel W W' → C15 w0 Pb p g9 kc S c n cur W' := fun W W' h hr => by
  have r : GrS S (n + 1 ≤ c) (.cells (upd cur n p) 23) W W' := hr
  have hb := h.big
  refine ⟨⟨r.os.trans h.below.os, r.tape.trans h.below.tape, r.output.trans h.below.output, Nat.le_trans h.below.size r.size, fun k hk => (r.block k (by omega) (by omega)).trans (h.below.block k hk)⟩, Nat.le_trans h.big r.size, by rw [r.block _ (Mild.lt_of_block h.pb) hP]; exact h.pb, by rw [r.block _ (Mild.lt_of_block h.l) hg]; exact h.l, ?_⟩
  rcases r.row h.lt with e | ⟨hy, e⟩
  · rw [e]; exact h.s
  · exact .inr ⟨hy, e⟩
theorem C15.row {w0 : World} {Pb : Nat} {p : Co} {g9 : Nat} {kc : Array Value} {S c n : Nat} {cur : Array Value} {W : World} (h : C15 w0 Pb p g9 kc S c n cur W) {ss : List Co} (hsz : n * 4 ≤ cur.size) (htk : cur.toList.take (n * 4) = ss.flatMap cells4) : Row4 W S 0 ss := by
  rcases h.s with e | ⟨_, e⟩
  · exact has_row4 e (has_take htk)
  · refine has_row4 e (has_take (m := n * 4) ?_)
    unfold upd
    rw [List.append_assoc, ← htk]
    exact List.take_left' (by rw [List.length_take, Array.length_toList]; omega)
def Is1 (S : Nat) (p : Co) (v : Value) (lo hi : Nat) (W : World) : Prop := ∃ b, v = .slice (some ⟨b, 0, none⟩) 1 1 ∧ b ≠ S ∧ W.heap[b]? = some (.cells (coc p) 23)
theorem is1_stays {S : Nat} {Y : Prop} {X : Obj} {p : Co} {v : Value} {lo hi lo' hi' : Nat} {W W' : World} (h : Is1 S p v lo hi W) (hg : (gwS S Y X).rel W W') : Is1 S p v lo' hi' W' := by
  obtain ⟨b, h1, h2, h3⟩ := h
  have hg' : GrS S Y X W W' := hg
  exact ⟨b, h1, h2, by rw [hg'.block b (Mild.lt_of_block h3) h2]; exact h3⟩
theorem wpl_app {P : Program} {ops : Array Oper} {Q : Exit → Act → World → Prop} {a : Act} {w w' : World} {rest : List Oper} {o : Oper} {v u v' : Value} (hw : Region.wanted o (yielded ops a.tmps) = true) (s x : Operand) (t : TypeId) (ho : o.op = .call { callee := .builtin .append, args := #[s, x], argTypes := #[t, t] })
    (hs : a.eval s = v) (hx : a.eval x = u) (hr : (Builtin.append_ #[t, t] o.type #[v, u]).run P w = .ok v' w') (h : wpList P ops Q rest (a.put o.dst v') w') : wpList P ops Q (o :: rest) a w := by
  unfold wpList
  rw [if_pos hw]
  refine .inl ?_
  unfold Oper.wp execOp
  simp only [ho, resolve, invoke, builtin, Sem.run_bind, Sem.run_pure, Result.andThen_ok, List.map_toArray, List.map_cons, List.map_nil, hs, hx, hr]
  exact h
theorem told_n (names : List ByteArray) (cs : List Co) (an : Option Addr) (ncap g cap n m : Nat) (s : ByteArray) (e : Int) (h : Hid (names.length = n ∧ cs.length = m ∧ reportT names cs = s ∧ reportE names cs = e)) (w : World) (ht : Tabs w) (hN : ∀ (j : Nat) x, names[j]? = some x → ∃ nb no, an = some ⟨nb, no, none⟩ ∧ nb < w.heap.size ∧ w.cell? ⟨nb, no + j, none⟩ = some (.string x)) (hg : g < w.heap.size) (hrow : Row4 w g 0 cs) :
    Calls Tryz.prog 19 #[.slice an n ncap, .slice (some ⟨g, 0, none⟩) m cap] w fun x w' => x = .returned (.agg #[.string s, .int .i64 e]) ∧ Below w.heap.size w w' := by
  have := told_any names cs an ncap g 0 cap w ht hN hg hrow
  rw [h.out.1, h.out.2.1, h.out.2.2.1, h.out.2.2.2] at this
  exact this
theorem rtold_n (names : List ByteArray) (cs : List Co) (an : Option Addr) (ncap g cap n m : Nat) (s : ByteArray) (e : Int) (h : Hid (names.length = n ∧ cs.length = m ∧ reportT names cs = s ∧ reportE names cs = e)) (w : World) (hxz : ∀ x ∈ names, x.size ≤ 9223372036854775807) (hN : ∀ (j : Nat) x, names[j]? = some x → ∃ nb no, an = some ⟨nb, no, none⟩ ∧ nb < w.heap.size ∧ w.cell? ⟨nb, no + j, none⟩ = some (.string x)) (hg : g < w.heap.size) (hrow : Row4 w g 0 cs) :
    Calls Tryz.prog 20 #[.slice an n ncap, .slice (some ⟨g, 0, none⟩) m cap] w fun x w' => x = .returned (.agg #[.string s, .int .i64 e]) ∧ Below w.heap.size w w' := by
  have := refrep_any names cs an ncap g 0 cap w hxz hN hg hrow
  unfold toldV at this
  rw [h.out.1, h.out.2.1, h.out.2.2.1, h.out.2.2.2] at this
  exact this

set_option maxRecDepth 100000 in
set_option maxHeartbeats 8000000 in
theorem mref15 (w0 W : World) (ht0 : Tabs w0) (names : List ByteArray) (an : Option Addr) (n ncap : Nat) (hlen : names.length = n) (hn : n ≤ 20) (hxz : ∀ x ∈ names, x.size ≤ 9223372036854775807) (hN : ∀ (j : Nat) x, names[j]? = some x → ∃ nb no, an = some ⟨nb, no, none⟩ ∧ nb < w0.heap.size ∧ w0.cell? ⟨nb, no + j, none⟩ = some (.string x))
    (Pb : Nat) (p : Co) (g9 c9 : Nat) (kc : Array Value) (ls : List Co) (hll : ls.length = n) (hkc : HasRow kc ls) (S c : Nat) (cur : Array Value) (ss : List Co) (hss : ss.length = n) (hcur : cur.size = c * 4) (hnc : n ≤ c) (htk : cur.toList.take (n * 4) = ss.flatMap cells4)
    (hS : w0.heap.size ≤ S) (hPS : Pb ≠ S) (hgS : g9 ≠ S) (hC : C15 w0 Pb p g9 kc S c n cur W)
    (j0 j1 j3 j4 j5 j6 j11 j12 j13 j14 j15 j16 j17 j18 j19 j20 j21 j22 j23 j24 j25 j26 j27 j28 j29 j30 j31 j32 j33 j34 j35 j36 j37 j38 j39 j40 j41 j42 j43 j44 j45 j46 j47 j48 j49 j50 j51 j52 j53 j54 j55 j56 j57 j58 j59 j60 j61 j62 j63 j64 j65 j66 j67 j68 j69 j70 j71 j72 j73 j74 j75 j76 j77 j78 j79 j80 j81 j82 j83 j84 j85 j86 j87 j88 j89 j90 j91 j92 j93 j94 j95 j96 j97 j98 j99 j100 j101 j102 j103 j104 j105 j106 j107 j108 j109 j110 j111 j112 j113 j114 j115 j116 j117 j118 j119 j120 j121 j122 j123 j124 j125 j126 j127 j128 j129 j130 j131 j132 j133 j134 j135 j136 j137 j138 j139 j140 j141 j142 j143 j144 j145 j146 j147 j148 j149 j150 j151 j152 j153 j154 j155 j156 j157 j158 j159 j160 j161 : Value) (Q0 : Exit → Act → World → Prop)
    (h0 : ∀ j128 j129 j130 j131 j132 j133 j134 j135 j136 j137 j138 j139 j140 j141 j142 j143 j144 j145 j146 j147 j148 j149 j150 j151 j152 j153 j154 j155 j156 j157 j158 j159 j160 j161 W', C15 w0 Pb p g9 kc S c n cur W' → Q0 .normal { tmps := #[j0, j1, .slice an n ncap, j3, j4, j5, .bool true, .bool true, pt Pb 0, .slice (some ⟨g9, 0, none⟩) n c9, .slice (some ⟨S, 0, none⟩) n c, j11, j12, j13, j14, j15, j16, j17, j18, j19, j20, j21, j22, j23, j24, j25, j26, j27, j28, j29, j30, j31, j32, j33, j34, j35, j36, j37, j38, j39, j40, j41, j42, j43, j44, j45, j46, j47, j48, j49, j50, j51, j52, j53, j54, j55, j56, j57, j58, j59, j60, j61, j62, j63, j64, j65, j66, j67, j68, j69, j70, j71, j72, j73, j74, j75, j76, j77, j78, j79, j80, j81, j82, j83, j84, j85, j86, j87, j88, j89, j90, j91, j92, j93, j94, j95, j96, j97, j98, j99, j100, j101, j102, j103, j104, j105, j106, j107, j108, j109, j110, j111, j112, j113, j114, j115, j116, j117, j118, j119, j120, j121, j122, j123, j124, j125, j126, j127, j128, j129, j130, j131, j132, j133, j134, j135, j136, j137, j138, j139, j140, j141, j142, j143, j144, j145, j146, j147, j148, j149, j150, j151, j152, j153, j154, j155, j156, j157, j158, j159, j160, j161], defers := [] } W') :
    (navC [1, 1, 1, 1, 1, 1, 1, 1, 0] (Tryz.f3.body.getD .skip)).wp Tryz.prog Q0 { tmps := #[j0, j1, .slice an n ncap, j3, j4, j5, j6, .bool true, pt Pb 0, .slice (some ⟨g9, 0, none⟩) n c9, .slice (some ⟨S, 0, none⟩) n c, j11, j12, j13, j14, j15, j16, j17, j18, j19, j20, j21, j22, j23, j24, j25, j26, j27, j28, j29, j30, j31, j32, j33, j34, j35, j36, j37, j38, j39, j40, j41, j42, j43, j44, j45, j46, j47, j48, j49, j50, j51, j52, j53, j54, j55, j56, j57, j58, j59, j60, j61, j62, j63, j64, j65, j66, j67, j68, j69, j70, j71, j72, j73, j74, j75, j76, j77, j78, j79, j80, j81, j82, j83, j84, j85, j86, j87, j88, j89, j90, j91, j92, j93, j94, j95, j96, j97, j98, j99, j100, j101, j102, j103, j104, j105, j106, j107, j108, j109, j110, j111, j112, j113, j114, j115, j116, j117, j118, j119, j120, j121, j122, j123, j124, j125, j126, j127, j128, j129, j130, j131, j132, j133, j134, j135, j136, j137, j138, j139, j140, j141, j142, j143, j144, j145, j146, j147, j148, j149, j150, j151, j152, j153, j154, j155, j156, j157, j158, j159, j160, j161], defers := [] } W := by
  conv => arg 2; whnf
  have H0 := Lib.hid h0; clear h0
  have HT := Lib.hid ht0; clear ht0
  have HNN := Lib.hid hN; clear hN
  have HXZ := Lib.hid hxz; clear hxz
  have HK := Lib.hid hkc; clear hkc
  have HCU := Lib.hid (And.intro hcur (And.intro hnc htk)); clear hcur htk
  obtain ⟨s1, e1, h1⟩ : ∃ s e, names.length = n ∧ ls.length = n ∧ reportT names ls = s ∧ reportE names ls = e := ⟨_, _, hlen, hll, rfl, rfl⟩
  obtain ⟨s2, e2, h2⟩ : ∃ s e, names.length = n ∧ ss.length = n ∧ reportT names ss = s ∧ reportE names ss = e := ⟨_, _, hlen, hss, rfl, rfl⟩
  obtain ⟨s3, e3, h3⟩ : ∃ s e, names.length = n ∧ (ss ++ [p]).length = n + 1 ∧ reportT names (ss ++ [p]) = s ∧ reportE names (ss ++ [p]) = e := ⟨_, _, hlen, by rw [List.length_append, hss]; rfl, rfl, rfl⟩
  have H1 := Lib.hid h1
  have H2 := Lib.hid h2
  have H3 := Lib.hid h3
  clear h1 h2 h3 hlen hll
  have HSS := Lib.hid hss; clear hss
  refine Tellg.region_told (G := gwS S (n + 1 ≤ c) (.cells (upd cur n p) 23)) 34 [⟨20, 148, Is1 S p⟩, ⟨21, 149, IsApp S (n + 1 ≤ c) (.cells (upd cur n p) 23) (ss ++ [p])⟩, ⟨26, 154, Is1 S p⟩, ⟨27, 155, IsApp S (n + 1 ≤ c) (.cells (upd cur n p) 23) (ss ++ [p])⟩] (C15 w0 Pb p g9 kc S c n cur) (by kernel_rfl) [(20, 148), (21, 149), (26, 154), (27, 155)] rfl 162 (by kernel_rfl) rfl (by simp) (C15.grow hS hPS hgS) ?hR hC ?H
  case hR =>
    simp only [List.forall_mem_cons, List.not_mem_nil, false_imp_iff, implies_true, and_true]
    exact ⟨fun v a b W W' h hb => is1_stays h hb, fun v a b W W' h hb => app_stays h hb, fun v a b W W' h hb => is1_stays h hb, fun v a b W W' h hb => app_stays h hb⟩
  clear hC
  apply Exists.intro
  refine ⟨?HW, ?HA, ?HT⟩
  case HW =>
    intro vals W hW
    have cP := Mild.cell_of_block hW.pb
    have hlS := hW.lt
    have HTW := Lib.hid (HT.out.below hW.below)
    have hNW : ∀ (j : Nat) x, names[j]? = some x → ∃ nb no, an = some ⟨nb, no, none⟩ ∧ nb < W.heap.size ∧ W.cell? ⟨nb, no + j, none⟩ = some (.string x) := fun j x hx => by
      obtain ⟨nb, no, q1, q2, q3⟩ := HNN.out j x hx
      exact ⟨nb, no, q1, Nat.lt_of_lt_of_le q2 hW.big, (hW.below.cell (p := ⟨nb, _, none⟩) q2).trans q3⟩
    have HNW := Lib.hid hNW; clear hNW
    have HR9 := Lib.hid (And.intro (Mild.lt_of_block hW.l) (has_row4 hW.l HK.out))
    have HRS := Lib.hid (And.intro hlS (hW.row (ss := ss) (by have := HCU.out.1; have := HCU.out.2.1; omega) HCU.out.2.2))
    have HWS := Lib.hid hW.s
    clear hW
    simp only [List.take_succ_cons, List.take_zero]
    apply Tellg.walk_q rfl rfl
    go_wp2
    refine ⟨rfl, rfl, (gwS S (n + 1 ≤ c) (.cells (upd cur n p) 23)).refl _, ?_⟩
    apply Tellg.walk_q rfl rfl
    go_wp2
    refine ⟨rfl, rfl, (gwS S (n + 1 ≤ c) (.cells (upd cur n p) 23)).refl _, ?_⟩
    apply Tellg.walk_q rfl rfl
    go_wp2_with (go_at_call 19; refine (told_n names ls an ncap g9 c9 n n s1 e1 H1 _ HTW.out HNW.out HR9.out.1 HR9.out.2).mono ?_; rintro e w1 ⟨rfl, hb⟩)
    refine ⟨rfl, rfl, grs_below hb, ?_⟩
    apply Tellg.walk_q rfl rfl
    go_wp2
    refine ⟨rfl, rfl, (gwS S (n + 1 ≤ c) (.cells (upd cur n p) 23)).refl _, ?_⟩
    apply Tellg.walk_q rfl rfl
    go_wp2
    refine ⟨rfl, rfl, (gwS S (n + 1 ≤ c) (.cells (upd cur n p) 23)).refl _, ?_⟩
    apply Tellg.walk_q rfl rfl
    go_wp2_with (go_at_call 20; refine (rtold_n names ls an ncap g9 c9 n n s1 e1 H1 _ HXZ.out HNW.out HR9.out.1 HR9.out.2).mono ?_; rintro e w1 ⟨rfl, hb⟩)
    refine ⟨rfl, rfl, grs_below hb, ?_⟩
    apply Tellg.walk_q rfl rfl
    go_wp2
    refine ⟨rfl, rfl, (gwS S (n + 1 ≤ c) (.cells (upd cur n p) 23)).refl _, ?_⟩
    apply Tellg.walk_q rfl rfl
    go_wp2
    refine ⟨rfl, rfl, (gwS S (n + 1 ≤ c) (.cells (upd cur n p) 23)).refl _, ?_⟩
    apply Tellg.walk_q rfl rfl
    go_wp2
    refine ⟨rfl, rfl, (gwS S (n + 1 ≤ c) (.cells (upd cur n p) 23)).refl _, ?_⟩
    apply Tellg.walk_q rfl rfl
    go_wp2
    refine ⟨rfl, rfl, (gwS S (n + 1 ≤ c) (.cells (upd cur n p) 23)).refl _, ?_⟩
    apply Tellg.walk_q rfl rfl
    go_wp2_with (go_at_call 19; refine (told_n names ss an ncap S c n n s2 e2 H2 _ HTW.out HNW.out HRS.out.1 HRS.out.2).mono ?_; rintro e w1 ⟨rfl, hb⟩)
    refine ⟨rfl, rfl, grs_below hb, ?_⟩
    apply Tellg.walk_q rfl rfl
    go_wp2
    refine ⟨rfl, rfl, (gwS S (n + 1 ≤ c) (.cells (upd cur n p) 23)).refl _, ?_⟩
    apply Tellg.walk_q rfl rfl
    go_wp2
    refine ⟨rfl, rfl, (gwS S (n + 1 ≤ c) (.cells (upd cur n p) 23)).refl _, ?_⟩
    apply Tellg.walk_q rfl rfl
    go_wp2_with (go_at_call 20; refine (rtold_n names ss an ncap S c n n s2 e2 H2 _ HXZ.out HNW.out HRS.out.1 HRS.out.2).mono ?_; rintro e w1 ⟨rfl, hb⟩)
    refine ⟨rfl, rfl, grs_below hb, ?_⟩
    apply Tellg.walk_q rfl rfl
    go_wp2
    refine ⟨rfl, rfl, (gwS S (n + 1 ≤ c) (.cells (upd cur n p) 23)).refl _, ?_⟩
    apply Tellg.walk_q rfl rfl
    go_wp2
    refine ⟨rfl, rfl, (gwS S (n + 1 ≤ c) (.cells (upd cur n p) 23)).refl _, ?_⟩
    apply Tellg.walk_q rfl rfl
    go_wp2
    refine ⟨rfl, rfl, (gwS S (n + 1 ≤ c) (.cells (upd cur n p) 23)).refl _, ?_⟩
    apply Tellg.walk_q rfl rfl
    go_wp2
    refine ⟨rfl, rfl, (gwS S (n + 1 ≤ c) (.cells (upd cur n p) 23)).refl _, ?_⟩
    apply Tellg.walk_q rfl rfl
    go_wp2
    refine ⟨rfl, rfl, (gwS S (n + 1 ≤ c) (.cells (upd cur n p) 23)).refl _, ?_⟩
    apply Tellg.walk_q rfl rfl
    go_wp2
    refine ⟨rfl, rfl, (gwS S (n + 1 ≤ c) (.cells (upd cur n p) 23)).refl _, ?_⟩
    refine Tellg.walk_t ⟨20, 148, Is1 S p⟩ (by simp) rfl (by simp) ?_ ?_
    · intro _
      go_wp2
      exact ⟨rfl, rfl, grs_below ((Below.refl _ _).alloc (Nat.le_refl _) _), W.heap.size, rfl, by omega, Mild.alloc_at _ _⟩
    simp only [Act.put, List.setIfInBounds_toArray, List.set_cons_zero, List.set_cons_succ]
    refine Tellg.walk_t ⟨21, 149, IsApp S (n + 1 ≤ c) (.cells (upd cur n p) 23) (ss ++ [p])⟩ (by simp) rfl (by simp) ?_ ?_
    · intro hy
      obtain ⟨lo, hi, ho, _⟩ := hy ⟨20, 148, Is1 S p⟩ (by simp) (by kernel_rfl)
      obtain ⟨b, hv, hbS, hbb⟩ : ∃ b, vals 20 = .slice (some ⟨b, 0, none⟩) 1 1 ∧ b ≠ S ∧ W.heap[b]? = some (.cells (coc p) 23) := ho
      rw [hv]
      have HBB := Lib.hid hbb
      clear hy hbb hv
      obtain ⟨v', w', hr, hrel, happ⟩ := app_small (W := W) 38 HSS.out (by omega) HCU.out.1 HCU.out.2.1 HCU.out.2.2 HWS.out HBB.out
      exact wpl_app rfl _ _ 38 rfl rfl rfl hr ⟨rfl, rfl, hrel, happ⟩
    simp only [Act.put, List.setIfInBounds_toArray, List.set_cons_zero, List.set_cons_succ]
    refine Tellg.walk_u rfl rfl ⟨.agg #[.string s3, .int .i64 e3], ?_, ?_⟩
    · intro hy
      obtain ⟨lo, hi, ho, _⟩ := hy ⟨21, 149, IsApp S (n + 1 ≤ c) (.cells (upd cur n p) 23) (ss ++ [p])⟩ (by simp) (by kernel_rfl)
      obtain ⟨b, cap, cs, hv, hbb, hrw, _⟩ : ∃ b cap cs, vals 21 = .slice (some ⟨b, 0, none⟩) (ss ++ [p]).length cap ∧ W.heap[b]? = some (.cells cs 23) ∧ HasRow cs (ss ++ [p]) ∧ (b = S → n + 1 ≤ c ∧ Obj.cells (upd cur n p) 23 = .cells cs 23) := ho
      rw [H3.out.2.1] at hv
      rw [hv]
      have HBB := Lib.hid (And.intro (Mild.lt_of_block hbb) (has_row4 hbb hrw))
      clear hy hbb hv hrw
      go_wp2_with (go_at_call 19; refine (told_n names (ss ++ [p]) an ncap b cap n (n + 1) s3 e3 H3 _ HTW.out HNW.out HBB.out.1 HBB.out.2).mono ?_; rintro e w1 ⟨rfl, hb⟩)
      refine ⟨rfl, rfl, grs_below hb, ?_⟩
      first | rfl | (rintro d ⟨⟩; rfl)
    simp only [Act.put, List.setIfInBounds_toArray, List.set_cons_zero, List.set_cons_succ]
    apply Tellg.walk_q rfl rfl
    go_wp2
    refine ⟨rfl, rfl, (gwS S (n + 1 ≤ c) (.cells (upd cur n p) 23)).refl _, ?_⟩
    apply Tellg.walk_q rfl rfl
    go_wp2
    refine ⟨rfl, rfl, (gwS S (n + 1 ≤ c) (.cells (upd cur n p) 23)).refl _, ?_⟩
    apply Tellg.walk_q rfl rfl
    go_wp2
    refine ⟨rfl, rfl, (gwS S (n + 1 ≤ c) (.cells (upd cur n p) 23)).refl _, ?_⟩
    refine Tellg.walk_t ⟨26, 154, Is1 S p⟩ (by simp) rfl (by simp) ?_ ?_
    · intro _
      go_wp2
      exact ⟨rfl, rfl, grs_below ((Below.refl _ _).alloc (Nat.le_refl _) _), W.heap.size, rfl, by omega, Mild.alloc_at _ _⟩
    simp only [Act.put, List.setIfInBounds_toArray, List.set_cons_zero, List.set_cons_succ]
    refine Tellg.walk_t ⟨27, 155, IsApp S (n + 1 ≤ c) (.cells (upd cur n p) 23) (ss ++ [p])⟩ (by simp) rfl (by simp) ?_ ?_
    · intro hy
      obtain ⟨lo, hi, ho, _⟩ := hy ⟨26, 154, Is1 S p⟩ (by simp) (by kernel_rfl)
      obtain ⟨b, hv, hbS, hbb⟩ : ∃ b, vals 26 = .slice (some ⟨b, 0, none⟩) 1 1 ∧ b ≠ S ∧ W.heap[b]? = some (.cells (coc p) 23) := ho
      rw [hv]
      have HBB := Lib.hid hbb
      clear hy hbb hv
      obtain ⟨v', w', hr, hrel, happ⟩ := app_small (W := W) 38 HSS.out (by omega) HCU.out.1 HCU.out.2.1 HCU.out.2.2 HWS.out HBB.out
      exact wpl_app rfl _ _ 38 rfl rfl rfl hr ⟨rfl, rfl, hrel, happ⟩
    simp only [Act.put, List.setIfInBounds_toArray, List.set_cons_zero, List.set_cons_succ]
    refine Tellg.walk_u rfl rfl ⟨.agg #[.string s3, .int .i64 e3], ?_, ?_⟩
    · intro hy
      obtain ⟨lo, hi, ho, _⟩ := hy ⟨27, 155, IsApp S (n + 1 ≤ c) (.cells (upd cur n p) 23) (ss ++ [p])⟩ (by simp) (by kernel_rfl)
      obtain ⟨b, cap, cs, hv, hbb, hrw, _⟩ : ∃ b cap cs, vals 27 = .slice (some ⟨b, 0, none⟩) (ss ++ [p]).length cap ∧ W.heap[b]? = some (.cells cs 23) ∧ HasRow cs (ss ++ [p]) ∧ (b = S → n + 1 ≤ c ∧ Obj.cells (upd cur n p) 23 = .cells cs 23) := ho
      rw [H3.out.2.1] at hv
      rw [hv]
      have HBB := Lib.hid (And.intro (Mild.lt_of_block hbb) (has_row4 hbb hrw))
      clear hy hbb hv hrw
      go_wp2_with (go_at_call 20; refine (rtold_n names (ss ++ [p]) an ncap b cap n (n + 1) s3 e3 H3 _ HXZ.out HNW.out HBB.out.1 HBB.out.2).mono ?_; rintro e w1 ⟨rfl, hb⟩)
      refine ⟨rfl, rfl, grs_below hb, ?_⟩
      first | rfl | (rintro d ⟨⟩; rfl)
    simp only [Act.put, List.setIfInBounds_toArray, List.set_cons_zero, List.set_cons_succ]
    apply Tellg.walk_q rfl rfl
    go_wp2
    refine ⟨rfl, rfl, (gwS S (n + 1 ≤ c) (.cells (upd cur n p) 23)).refl _, ?_⟩
    apply Tellg.walk_q rfl rfl
    go_wp2
    refine ⟨rfl, rfl, (gwS S (n + 1 ≤ c) (.cells (upd cur n p) 23)).refl _, ?_⟩
    apply Tellg.walk_q rfl rfl
    go_wp2
    refine ⟨rfl, rfl, (gwS S (n + 1 ≤ c) (.cells (upd cur n p) 23)).refl _, ?_⟩
    apply Tellg.walk_q rfl rfl
    go_wp2
    refine ⟨rfl, rfl, (gwS S (n + 1 ≤ c) (.cells (upd cur n p) 23)).refl _, ?_⟩
    apply Tellg.walk_q rfl rfl
    go_wp2
    refine ⟨rfl, rfl, (gwS S (n + 1 ≤ c) (.cells (upd cur n p) 23)).refl _, ?_⟩
    exact Tellg.walk_end rfl
  case HA => exact fun _ => rfl
  case HT =>
    intro vals lo hi w2 hC2 _ _
    try simp only [List.drop_succ_cons, List.drop_zero]
    have HC2 := Lib.hid hC2; clear hC2
    go_wp2
    exact H0.out _ _ _ _ _ _ _ _ _ _ _ _ _ _ _ _ _ _ _ _ _ _ _ _ _ _ _ _ _ _ _ _ _ _ _ HC2.out
end Go.Proofs.YtajccjbigcdkbaaGreatDoor
