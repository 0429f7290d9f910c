/- Split's two answers; awake. -/
import Derived.Test.YtejfienogljboaaDoorLinD
import Derived.Test.YtejfienogljboaaDoorLinF
import Derived.Test.YtejfienogljboaaDoorLinG
import Derived.Test.YtejfienogljboaaDoorLinH
import Derived.Test.YtejfienogljboaaDoorLinK
namespace Go.Proofs.YtejfienogljboaaDoor
open Go.RowKit

theorem split_yes (s : ByteArray) (hs : s.size ≤ 4194304) {l : List Ln} (h : linesOf s.data.toList = .inl l) (m : Int) (w : World) (hm : w.cell? ⟨0, 0, none⟩ = some (.int .i64 m)) : Calls Tryd.prog 9 #[.string s] w fun e w' =>
    ∃ pu cu, e = .returned (.tuple #[.slice pu l.length cu, .int .i64 0, .int .i64 0]) ∧ Below w.heap.size w w' ∧ LineRow 40 w' w.heap.size (.slice pu l.length cu) l := by
  refine (split_val s hs m w hm).mono ?_
  rintro e w' ⟨hb, hr⟩
  rw [h] at hr
  obtain ⟨v, rfl, hr⟩ := hr
  obtain ⟨pu, cu, rfl⟩ := hr.slice
  exact ⟨pu, cu, rfl, hb, hr⟩
theorem split_no (s : ByteArray) (hs : s.size ≤ 4194304) {k : Nat} (h : linesOf s.data.toList = .inr k) (m : Int) (w : World) (hm : w.cell? ⟨0, 0, none⟩ = some (.int .i64 m)) : Calls Tryd.prog 9 #[.string s] w fun e w' =>
    e = .returned (.tuple #[.slice none 0 0, .int .i64 (k : Int), .int .i64 3]) ∧ Below w.heap.size w w' := by
  refine (split_val s hs m w hm).mono ?_
  rintro e w' ⟨hb, hr⟩
  rw [h] at hr
  exact ⟨hr, hb⟩
theorem rsplit_yes (s : ByteArray) (hs : s.size ≤ 4194304) {l : List Ln} (h : linesOf s.data.toList = .inl l) (w : World) : Calls Tryd.prog 10 #[.string s] w fun e w' =>
    ∃ pu cu, e = .returned (.tuple #[.slice pu l.length cu, .int .i64 0, .int .i64 0]) ∧ Below w.heap.size w w' ∧ LineRow 41 w' w.heap.size (.slice pu l.length cu) l := by
  refine (rsplit_val s hs w).mono ?_
  rintro e w' ⟨hb, hr⟩
  rw [h] at hr
  obtain ⟨v, rfl, hr⟩ := hr
  obtain ⟨pu, cu, rfl⟩ := hr.slice
  exact ⟨pu, cu, rfl, hb, hr⟩
theorem rsplit_no (s : ByteArray) (hs : s.size ≤ 4194304) {k : Nat} (h : linesOf s.data.toList = .inr k) (w : World) : Calls Tryd.prog 10 #[.string s] w fun e w' =>
    e = .returned (.tuple #[.slice none 0 0, .int .i64 (k : Int), .int .i64 3]) ∧ Below w.heap.size w w' := by
  refine (rsplit_val s hs w).mono ?_
  rintro e w' ⟨hb, hr⟩
  rw [h] at hr
  exact ⟨hr, hb⟩

abbrev exA : ByteArray := ⟨#[97, 32, 32, 98, 59, 99, 10, 10, 32, 100]⟩
abbrev exB : ByteArray := ⟨#[97, 10, 1]⟩
abbrev exL : List Ln := [(1, [[97], [98]]), (3, [[100]])]
theorem exA_lines : linesOf exA.data.toList = .inl exL := by decide +kernel
theorem exB_lines : linesOf exB.data.toList = .inr 2 := by decide +kernel
theorem ex_join : joinI (ints exL) = [97, 32, 98, 10, 100, 10] := by decide +kernel
/-- what awake lays out by hand -/
theorem ex_at (w : World) : LinesAt (((w.alloc (.cells #[.string ⟨#[97]⟩, .string ⟨#[98]⟩] 9)).alloc (.cells #[.string ⟨#[100]⟩] 9)).alloc
    (.cells #[.int .i64 1, .slice (some ⟨w.heap.size, 0, none⟩) 2 2, .int .i64 3, .slice (some ⟨w.heap.size + 1, 0, none⟩) 1 1] 41)) (.slice (some ⟨w.heap.size + 1 + 1, 0, none⟩) 2 2) (ints exL) := by
  have z1 : (w.alloc (.cells #[.string ⟨#[97]⟩, .string ⟨#[98]⟩] 9)).heap.size = w.heap.size + 1 := by simp
  have z2 : ((w.alloc (.cells #[.string ⟨#[97]⟩, .string ⟨#[98]⟩] 9)).alloc (.cells #[.string ⟨#[100]⟩] 9)).heap.size = w.heap.size + 1 + 1 := by simp
  generalize hw1 : w.alloc (.cells #[.string ⟨#[97]⟩, .string ⟨#[98]⟩] 9) = w1 at *
  have hb1 := (Below.refl w1.heap.size w1).alloc (Nat.le_refl _) (.cells #[.string ⟨#[100]⟩] 9)
  generalize hw2 : w1.alloc (.cells #[.string ⟨#[100]⟩] 9) = w2 at *
  have hb2 := (Below.refl w2.heap.size w2).alloc (Nat.le_refl _) (.cells #[.int .i64 1, .slice (some ⟨w.heap.size, 0, none⟩) 2 2, .int .i64 3, .slice (some ⟨w.heap.size + 1, 0, none⟩) 1 1] 41)
  have c : ∀ j, (w2.alloc (.cells #[.int .i64 1, .slice (some ⟨w.heap.size, 0, none⟩) 2 2, .int .i64 3, .slice (some ⟨w.heap.size + 1, 0, none⟩) 1 1] 41)).cell? ⟨w.heap.size + 1 + 1, j, none⟩ = (#[.int .i64 1, .slice (some ⟨w.heap.size, 0, none⟩) 2 2, .int .i64 3, .slice (some ⟨w.heap.size + 1, 0, none⟩) 1 1] : Array Value)[j]? := fun j => by rw [← z2, World.cell?_alloc_mark]
  have b : ∀ j, w2.cell? ⟨w.heap.size + 1, j, none⟩ = (#[.string ⟨#[100]⟩] : Array Value)[j]? := fun j => by rw [← z1, ← hw2, World.cell?_alloc_mark]
  have a : ∀ j, w1.cell? ⟨w.heap.size, j, none⟩ = (#[.string ⟨#[97]⟩, .string ⟨#[98]⟩] : Array Value)[j]? := fun j => by rw [← hw1, World.cell?_alloc_mark]
  generalize w2.alloc (.cells #[.int .i64 1, .slice (some ⟨w.heap.size, 0, none⟩) 2 2, .int .i64 3, .slice (some ⟨w.heap.size + 1, 0, none⟩) 1 1] 41) = w3 at *
  have b3 : ∀ j, w3.cell? ⟨w.heap.size + 1, j, none⟩ = (#[.string ⟨#[100]⟩] : Array Value)[j]? := fun j => by rw [hb2.cell (by show w.heap.size + 1 < _; omega)]; exact b j
  have a3 : ∀ j, w3.cell? ⟨w.heap.size, j, none⟩ = (#[.string ⟨#[97]⟩, .string ⟨#[98]⟩] : Array Value)[j]? := fun j => by
    rw [hb2.cell (by show w.heap.size < _; omega), hb1.cell (by show w.heap.size < _; omega)]; exact a j
  refine ⟨_, 2, rfl, fun i x hx => ?_⟩
  match i, hx with
  | 0, hx =>
    obtain rfl : ((1 : Int), [[97], [98]]) = x := by simpa [ints] using hx
    refine ⟨_, .slice (some ⟨w.heap.size, 0, none⟩) 2 2, rfl, ?_, ?_, _, 2, rfl, fun j y hy => ?_⟩
    · rw [add_at]; exact c 0
    · rw [add_at]; exact c 1
    · match j, hy with
      | 0, hy => obtain rfl : [97] = y := by simpa using hy
                 exact ⟨_, ⟨#[97]⟩, rfl, by rw [add_at]; exact a3 0, rfl⟩
      | 1, hy => obtain rfl : [98] = y := by simpa using hy
                 exact ⟨_, ⟨#[98]⟩, rfl, by rw [add_at]; exact a3 1, rfl⟩
      | j + 2, hy => simp at hy
  | 1, hx =>
    obtain rfl : ((3 : Int), [[100]]) = x := by simpa [ints] using hx
    refine ⟨_, .slice (some ⟨w.heap.size + 1, 0, none⟩) 1 1, rfl, ?_, ?_, _, 1, rfl, fun j y hy => ?_⟩
    · rw [add_at]; exact c 2
    · rw [add_at]; exact c 3
    · match j, hy with
      | 0, hy => obtain rfl : [100] = y := by simpa using hy
                 exact ⟨_, ⟨#[100]⟩, rfl, by rw [add_at]; exact b3 0, rfl⟩
      | j + 1, hy => simp at hy
  | i + 2, hx => simp [ints] at hx
set_option maxHeartbeats 4000000 in
theorem awake_val (m : Int) (w : World) (hm : w.cell? ⟨0, 0, none⟩ = some (.int .i64 m)) : Calls Tryd.prog 11 #[] w fun e w' => e = .returned (.bool true) ∧ Below w.heap.size w w' := by
  have hm0 := cells_lt hm
  go_enter Tryd.func11, Tryd.ntmps11
  go_wp2_with fail
  refine (split_yes exA (by decide) exA_lines m _ hm).mono ?_
  rintro e w1 ⟨pu, cu, rfl, hb1, hr1⟩
  have hm1 := (hb1.cell hm0).trans hm
  go_wp2_with fail
  refine (split_no exB (by decide) exB_lines m _ hm1).mono ?_
  rintro e w2 ⟨rfl, hb2⟩
  have hr2 := (hr1.next hb2 (Nat.le_refl _)).at
  have hb12 := bthen hb1 hb2
  go_wp2_with fail
  refine (back_val (ints exL) (by decide) _ _ hr2).mono ?_
  rintro e w3 ⟨v3, rfl, hb3, hr3⟩
  have hb13 := bthen hb12 hb3
  have hbE := hb13.alloc hb13.size (.cells #[.string ⟨#[97]⟩, .string ⟨#[98]⟩] 9)
  have hbE := hbE.alloc hbE.size (.cells #[.string ⟨#[100]⟩] 9)
  have hbE := hbE.alloc hbE.size (.cells #[.int .i64 1, .slice (some ⟨w3.heap.size, 0, none⟩) 2 2, .int .i64 3, .slice (some ⟨w3.heap.size + 1, 0, none⟩) 1 1] 41)
  have hbF := (Below.refl w3.heap.size w3).alloc (Nat.le_refl _) (.cells #[.string ⟨#[97]⟩, .string ⟨#[98]⟩] 9)
  have hbF := hbF.alloc hbF.size (.cells #[.string ⟨#[100]⟩] 9)
  have hbF := hbF.alloc hbF.size (.cells #[.int .i64 1, .slice (some ⟨w3.heap.size, 0, none⟩) 2 2, .int .i64 3, .slice (some ⟨w3.heap.size + 1, 0, none⟩) 1 1] 41)
  have hE := ex_at w3
  have hr4 := hr3.next hbF (Nat.le_refl _)
  have hl4 := (hr2.next hb3 (Nat.le_refl _)).next hbF (Nat.le_refl _)
  clear hbF hr3 hr2 hr1 hb13 hb12 hb3 hb2 hb1 hm0 hm hm1
  have hS := same_yes (ints exL) (ints exL) true _ _ _ hr4 hE rfl (fun _ => rfl) (by decide) (by decide)
  have hz := hbE.size
  clear hE
  go_wp2_with fail
  refine hS.mono ?_
  rintro e w5 ⟨rfl, hb5⟩
  have hl5 := hl4.next hb5 (Nat.le_refl _)
  have hb6 := bthen hbE hb5
  clear hS hl4 hr4 hbE hb5
  have hJ := join_val (ints exL) (by decide) _ _ hl5
  rw [ex_join] at hJ
  go_wp2_with fail
  refine hJ.mono ?_
  rintro e w7 ⟨rfl, hb7⟩
  have hb8 := bthen hb6 hb7
  clear hJ hl5
  go_wp2
  go_ret
  exact ⟨rfl, hb8⟩
end Go.Proofs.YtejfienogljboaaDoor
