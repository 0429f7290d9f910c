/- The law's own functions: an instruction of two arguments; what the document fixes. -/
import Derived.Test.YtiheecgabfcigaaFoldG
namespace Go.Proofs.Ytiheecgabfcigaa
open Go.RowKit Num Flo

def strD : ByteArray := { data := #[100] }
def twoV (op : Int) (p : Nat) : Value := .agg #[.int .i64 op, .string { data := #[100] }, .string { data := #[] }, .slice (some ⟨p, 0, none⟩) 2 2, .slice none 0 0, .slice none 0 0]

set_option maxHeartbeats 400000 in
theorem two_val (op K : Int) (s : ByteArray) (n K2 : Int) (s2 : ByteArray) (n2 : Int) (w : World) :
    Calls Try.prog 11 #[.int .i64 op, .agg #[.int .i64 K, .string s, .int .i64 n], .agg #[.int .i64 K2, .string s2, .int .i64 n2]] w fun e w' => e = .returned (twoV op (w.heap.size + 1 + 1 + 1)) ∧
      Box w' (w.heap.size + 1 + 1 + 1) [.int .i64 K, .string s, .int .i64 n, .int .i64 K2, .string s2, .int .i64 n2] ∧ Below w.heap.size w w' := by
  go_enter Try.func11, Try.ntmps11
  go_wp2
  refine bodyPost_ret_by (v := twoV op (w.heap.size + 1 + 1 + 1)) ((results_cell1 rfl _ _ _).trans (by go_simp; try rfl)) rfl ⟨rfl, ?_⟩
  have h3 := (boxes3 (w := w) (c1 := [.int .i64 K, .string s, .int .i64 n]) (c2 := [.int .i64 K2, .string s2, .int .i64 n2]) (c3 := [.int .i64 op, .string { data := #[100] }, .string { data := #[] }, .slice (some ⟨w.heap.size + 1 + 1 + 1, 0, none⟩) 2 2, .slice none 0 0, .slice none 0 0]) (t1 := 30) (t2 := 30) (t3 := 26) (Below.refl _ _)).2.2.2
  refine ⟨?_, h3.alloc h3.size _⟩
  have hs : (((w.alloc (Obj.cells #[.int .i64 K, .string s, .int .i64 n] 30)).alloc (Obj.cells #[.int .i64 K2, .string s2, .int .i64 n2] 30)).alloc (Obj.cells #[.int .i64 op, .string { data := #[100] }, .string { data := #[] }, .slice (some ⟨w.heap.size + 1 + 1 + 1, 0, none⟩) 2 2, .slice none 0 0, .slice none 0 0] 26)).heap.size = w.heap.size + 1 + 1 + 1 := by simp
  have := Box.alloc (((w.alloc (Obj.cells #[.int .i64 K, .string s, .int .i64 n] 30)).alloc (Obj.cells #[.int .i64 K2, .string s2, .int .i64 n2] 30)).alloc (Obj.cells #[.int .i64 op, .string { data := #[100] }, .string { data := #[] }, .slice (some ⟨w.heap.size + 1 + 1 + 1, 0, none⟩) 2 2, .slice none 0 0, .slice none 0 0] 26)) [.int .i64 K, .string s, .int .i64 n, .int .i64 K2, .string s2, .int .i64 n2] 30
  rw [hs] at this
  exact this

theorem two_any (op K : Int) (s : ByteArray) (n K2 : Int) (s2 : ByteArray) (n2 : Int) (w : World) :
    Calls Try.prog 11 #[.int .i64 op, .agg #[.int .i64 K, .string s, .int .i64 n], .agg #[.int .i64 K2, .string s2, .int .i64 n2]] w fun e w' => ∃ p, e = .returned (twoV op p) ∧
      Box w' p [.int .i64 K, .string s, .int .i64 n, .int .i64 K2, .string s2, .int .i64 n2] ∧ Below w.heap.size w w' :=
  (two_val op K s n K2 s2 n2 w).mono fun _ _ h => ⟨_, h⟩

/-- the call of 'Instr' behind 'two' -/
theorem fold_two (op K : Int) (s : ByteArray) (n K2 : Int) (s2 : ByteArray) (n2 : Int) (hd : (decide (1 ≤ op) && decide (op ≤ 21) || op == 28) = true) (k : Int) (t : ByteArray) (j : Int) (b : Bool) (h : instr2V op K s n K2 s2 n2 = (k, t, j, b)) (p : Nat) (w : World)
    (hx : Box w p [.int .i64 K, .string s, .int .i64 n, .int .i64 K2, .string s2, .int .i64 n2]) :
    Calls Try.prog 8 #[twoV op p] w fun e w' => e = .returned (.tuple #[.agg #[.int .i64 k, .string t, .int .i64 j], .bool b]) ∧ Below w.heap.size w w' :=
  instr2_val op _ _ p 0 2 none none 0 0 0 0 K s n K2 s2 n2 hd k t j b h w hx.lt (hx.c 0 _ rfl) (hx.c 1 _ rfl) (hx.c 2 _ rfl) (hx.c 3 _ rfl) (hx.c 4 _ rfl) (hx.c 5 _ rfl)

def xS : ByteArray := { data := #[120] }
theorem aw1 : instr2V 1 2 { data := #[] } 2 2 { data := #[] } 2 = (2, .empty, 4, true) := by
  refine instr2_hit (i := 0) (by decide) ?_ (fun m hm => absurd hm (Nat.not_lt_zero m))
  simp [ruleV, reckonedV, doN]
  decide +kernel
theorem aw2 : instr2V 15 1 { data := #[120] } 0 3 { data := #[] } (-9223372036854775808) = (1, { data := #[120] }, 0, true) := by
  refine instr2_hit (i := 2) (by decide) ?_ ?_
  · simp [ruleV, neutralV, pickV]
  · intro m hm
    have : m = 0 ∨ m = 1 := by omega
    rcases this with rfl | rfl
    · show _ = _; simp [ruleV, reckonedV]
    · show _ = _; simp [ruleV, noughtV]
theorem aw3 : instr2V 15 1 { data := #[120] } 0 3 { data := #[] } 0 = (0, .empty, 0, false) := by
  refine instr2_none ?_
  intro m hm
  have : m = 0 ∨ m = 1 ∨ m = 2 ∨ m = 3 ∨ m = 4 := by omega
  rcases this with rfl | rfl | rfl | rfl | rfl
  · show _ = _; simp [ruleV, reckonedV]
  · show _ = _; simp [ruleV, noughtV]
  · show _ = _; simp [ruleV, neutralV, pickV]
  · show _ = _; simp [ruleV, oneV]
  · show _ = _; simp [ruleV]
theorem aw4 : instr2V 19 1 { data := #[120] } 0 1 { data := #[120] } 0 = (0, .empty, 0, false) := by
  refine instr2_none ?_
  intro m hm
  have : m = 0 ∨ m = 1 ∨ m = 2 ∨ m = 3 ∨ m = 4 := by omega
  rcases this with rfl | rfl | rfl | rfl | rfl
  · show _ = _; simp [ruleV, reckonedV]
  · show _ = _; simp [ruleV, noughtV]
  · show _ = _; simp [ruleV, neutralV]
  · show _ = _; simp [ruleV, oneV]
  · show _ = _; simp [ruleV]
theorem aw5 : instr2V 11 1 { data := #[120] } 0 1 { data := #[120] } 0 = (2, .empty, 1, true) := by
  refine instr2_hit (i := 3) (by decide) ?_ ?_
  · simp [ruleV, oneV, sameV]
  · intro m hm
    have : m = 0 ∨ m = 1 ∨ m = 2 := by omega
    rcases this with rfl | rfl | rfl
    · show _ = _; simp [ruleV, reckonedV]
    · show _ = _; simp [ruleV, noughtV]
    · show _ = _; simp [ruleV, neutralV]

set_option maxHeartbeats 2000000 in
theorem awake_true (w : World) : Calls Try.prog 6 #[] w fun e w' => e = .returned (.bool true) ∧ Below w.heap.size w w' := by
  have A1 := Lib.hid aw1
  have A2 := Lib.hid aw2
  have A3 := Lib.hid aw3
  have A4 := Lib.hid aw4
  have A5 := Lib.hid aw5
  go_enter Try.func6, Try.ntmps6
  go_wp2_with fail
  refine (two_any _ _ _ _ _ _ _ _).mono ?_
  rintro e w1 ⟨p1, rfl, T1, hb1⟩
  obtain ⟨X1, N1, B1⟩ := boxes2 hb1
  clear hb1
  go_wp2_with fail
  refine (fold_two _ _ _ _ _ _ _ rfl _ _ _ _ A1.out _ _ T1).mono ?_
  rintro e w2 ⟨rfl, hb2⟩
  have X2 := X1.nx hb2
  have B2 := bthen B1 hb2
  clear X1 N1 B1 T1 hb2
  (have x0 := (X2).c 0 _ rfl; have x1 := (X2).c 1 _ rfl; have x2 := (X2).c 2 _ rfl; have y0 := fun o => ((X2).al o).c 0 _ rfl; have y1 := fun o => ((X2).al o).c 1 _ rfl; have y2 := fun o => ((X2).al o).c 2 _ rfl)
  go_wp2_with fail
  (clear x0 x1 x2 y0 y1 y2)
  refine (two_any _ _ _ _ _ _ _ _).mono ?_
  rintro e w3 ⟨p3, rfl, T3, hb3⟩
  obtain ⟨Q3, hc3⟩ := boxes1 hb3
  have X3 := X2.nx hc3
  have B3 := bthen B2 hc3
  clear X2 B2 hb3 hc3
  go_wp2_with fail
  refine (fold_two _ _ _ _ _ _ _ rfl _ _ _ _ A2.out _ _ T3).mono ?_
  rintro e w4 ⟨rfl, hb4⟩
  have Q4 := Q3.nx hb4
  have X4 := X3.nx hb4
  have B4 := bthen B3 hb4
  clear X3 Q3 B3 T3 hb4
  (have x0 := (X4).c 0 _ rfl; have x1 := (X4).c 1 _ rfl; have x2 := (X4).c 2 _ rfl; have y0 := fun o => ((X4).al o).c 0 _ rfl; have y1 := fun o => ((X4).al o).c 1 _ rfl; have y2 := fun o => ((X4).al o).c 2 _ rfl)
  go_wp2_with fail
  (clear x0 x1 x2 y0 y1 y2)
  refine (two_any _ _ _ _ _ _ _ _).mono ?_
  rintro e w5 ⟨p5, rfl, T5, hb5⟩
  obtain ⟨P5, hc5⟩ := boxes1 hb5
  have X5 := X4.nx hc5
  have Q5 := Q4.nx hc5
  have B5 := bthen B4 hc5
  clear X4 Q4 B4 hb5 hc5
  go_wp2_with fail
  refine (fold_two _ _ _ _ _ _ _ rfl _ _ _ _ A3.out _ _ T5).mono ?_
  rintro e w6 ⟨rfl, hb6⟩
  have P6 := P5.nx hb6
  have X6 := X5.nx hb6
  have Q6 := Q5.nx hb6
  have B6 := bthen B5 hb6
  clear X5 Q5 P5 B5 T5 hb6
  (have x0 := (X6).c 0 _ rfl; have x1 := (X6).c 1 _ rfl; have x2 := (X6).c 2 _ rfl; have y0 := fun o => ((X6).al o).c 0 _ rfl; have y1 := fun o => ((X6).al o).c 1 _ rfl; have y2 := fun o => ((X6).al o).c 2 _ rfl)
  go_wp2_with fail
  (clear x0 x1 x2 y0 y1 y2)
  refine (two_any _ _ _ _ _ _ _ _).mono ?_
  rintro e w7 ⟨p7, rfl, T7, hb7⟩
  obtain ⟨-, hc7⟩ := boxes1 hb7
  have X7 := X6.nx hc7
  have Q7 := Q6.nx hc7
  have P7 := P6.nx hc7
  have B7 := bthen B6 hc7
  clear X6 Q6 P6 B6 hb7 hc7
  go_wp2_with fail
  refine (fold_two _ _ _ _ _ _ _ rfl _ _ _ _ A4.out _ _ T7).mono ?_
  rintro e w8 ⟨rfl, hb8⟩
  have X8 := X7.nx hb8
  have Q8 := Q7.nx hb8
  have P8 := P7.nx hb8
  have B8 := bthen B7 hb8
  clear X7 Q7 P7 B7 T7 hb8
  (have x0 := (X8).c 0 _ rfl; have x1 := (X8).c 1 _ rfl; have x2 := (X8).c 2 _ rfl; have y0 := fun o => ((X8).al o).c 0 _ rfl; have y1 := fun o => ((X8).al o).c 1 _ rfl; have y2 := fun o => ((X8).al o).c 2 _ rfl)
  go_wp2_with fail
  (clear x0 x1 x2 y0 y1 y2)
  refine (two_any _ _ _ _ _ _ _ _).mono ?_
  rintro e w9 ⟨p9, rfl, T9, hb9⟩
  obtain ⟨-, hc9⟩ := boxes1 hb9
  have X9 := X8.nx hc9
  have Q9 := Q8.nx hc9
  have P9 := P8.nx hc9
  have B9 := bthen B8 hc9
  clear X8 Q8 P8 B8 hb9 hc9
  go_wp2_with fail
  refine (fold_two _ _ _ _ _ _ _ rfl _ _ _ _ A5.out _ _ T9).mono ?_
  rintro e w10 ⟨rfl, hb10⟩
  have X10 := X9.nx hb10
  have Q10 := Q9.nx hb10
  have P10 := P9.nx hb10
  have B10 := bthen B9 hb10
  clear X9 Q9 P9 B9 T9 hb10
  have c2 := fun o => (Q10.al o).c 2 _ rfl
  have p0 := fun o => (P10.al o).c 0 _ rfl
  have p1 := fun o => (P10.al o).c 1 _ rfl
  have p2 := fun o => (P10.al o).c 2 _ rfl
  (have x0 := (X10).c 0 _ rfl; have x1 := (X10).c 1 _ rfl; have x2 := (X10).c 2 _ rfl; have y0 := fun o => ((X10).al o).c 0 _ rfl; have y1 := fun o => ((X10).al o).c 1 _ rfl; have y2 := fun o => ((X10).al o).c 2 _ rfl)
  go_wp2
  go_ret
  exact ⟨rfl, B10.alloc B10.size _⟩
end Go.Proofs.Ytiheecgabfcigaa
