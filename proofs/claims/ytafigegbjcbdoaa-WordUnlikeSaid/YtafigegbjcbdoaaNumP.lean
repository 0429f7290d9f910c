/- The walk of Put of package num: a number's text. -/
import Derived.Test.YtafigegbjcbdoaaRows
import Derived.Test.YtafigegbjcbdoaaNum
import Derived.Test.YtafigegbjcbdoaaKit
namespace Go.Proofs.Ytafigegbjcbdoaa
open Go.RowKit Num

set_option maxHeartbeats 400000 in
theorem digit_val (x : Int) (d : Nat) (hx : x.natAbs = d) (hd : d < 10) (w : World) :
    Calls Try.prog 33 #[.int .i64 x] w fun e w' => e = .returned (.int .u8 ((dig d).toNat : Int)) ∧ w = w' := by
  have H : Hid (((dig d).toNat : Int) = 48 + (d : Int)) := dig_toNat hd
  by_cases h : x < 0
  · have e : -x = (d : Int) := by omega
    clear hx
    go_enter Try.func33, Try.ntmps33
    go_wp2
    go_ret
    exact ⟨ret_int H.out.symm, rfl⟩
  · obtain rfl : x = (d : Int) := by omega
    clear hx
    go_enter Try.func33, Try.ntmps33
    go_wp2
    go_ret
    exact ⟨ret_int H.out.symm, rfl⟩

/-- the last k of the twenty bytes are a number's last digits -/
def Filled (wr : World) (B k m : Nat) : Prop := (∀ i, i < 20 → (wr.cell? ⟨B, i, none⟩).isSome = true ∧ wr.frozen? ⟨B, i, none⟩ = false) ∧ ∀ j, j < k → wr.cell? ⟨B, 20 - k + j, none⟩ = some (byteV ((lowD m k).getD j 0))
theorem filled_step {wr : World} {B k m : Nat} (h : Filled wr B k m) (hk : k < 20) : Filled (wr.setCell ⟨B, 20 - k - 1, none⟩ (.int .u8 ((dig (m / 10 ^ k % 10)).toNat : Int))) B (k + 1) m := by
  refine ⟨fun i hi => ?_, fun j hj => ?_⟩
  · by_cases e : i = 20 - k - 1
    · subst e
      refine ⟨?_, by rw [World.frozen?_setCell]; exact (h.1 _ hi).2⟩
      rw [World.cell?_setCell_same' _ _ _ (h.1 _ hi).1]; rfl
    · refine ⟨?_, by rw [World.frozen?_setCell]; exact (h.1 _ hi).2⟩
      rw [World.cell?_setCell_other _ _ _ _ (addr_off (by omega))]; exact (h.1 _ hi).1
  · cases j with
    | zero =>
      show (wr.setCell ⟨B, 20 - k - 1, none⟩ _).cell? ⟨B, 20 - k - 1, none⟩ = _
      rw [World.cell?_setCell_same' _ _ _ (h.1 _ (by omega)).1]
      rfl
    | succ j =>
      rw [World.cell?_setCell_other _ _ _ _ (addr_off (by omega))]
      rw [lowD, List.getD_cons_succ, ← h.2 j (by omega)]
      congr 2
      omega

theorem slice_buf (B l : Nat) (x : Int) (hx : x = (l : Int)) (hl : l < 20) (w : World) :
    (Instr.sliceAt 41 (.pointer (some ⟨B, 0, none⟩)) (some (.int .i64 x)) none none).run Try.prog w = .ok (.slice (some ⟨B, l, none⟩) (20 - l) (20 - l)) w := by
  subst hx
  have hlen : Try.prog.arrayLen 41 = 20 := by kernel_rfl
  have hsz : (sizeOf (Try.prog.elem 41)).run Try.prog w = .ok 1 w := by kernel_rfl
  have hu : Try.prog.underlying 41 = some (.array (Try.prog.arrayLen 41) (Try.prog.elem 41)) := by kernel_rfl
  rw [run_sliceAt_array_l w 41 ⟨B, 0, none⟩ hu .i64 l (by omega) (by rw [hlen]; omega), hsz, hlen]
  have h2 : (20 : Nat) ≠ l := by omega
  simp only [Result.andThen_ok, slicedAt, Int.toNat_natCast, if_neg h2]
  simp [Addr.add]
  by_cases h0 : l = 0 <;> simp [h0]

theorem conv_cells {wr : World} {B off n : Nat} {l : List UInt8} (hn : n = l.length) (hc : ∀ j, j < l.length → wr.cell? ⟨B, off + j, none⟩ = some (byteV (l.getD j 0))) :
    (convert 43 9 (.slice (some ⟨B, off, none⟩) n n)).run Try.prog wr = .ok (.string ⟨l.toArray⟩) wr := by
  subst hn
  refine run_convert_bytes_back wr _ _ 5 ⟨B, off, none⟩ l.length l Try.underlying43 Try.underlying5 Try.underlying9 fun j hj => ?_
  rw [Addr.add_lit, hc j hj, List.getD_eq_getElem?_getD, List.getElem?_eq_getElem hj]
  rfl

theorem numText_pos {n : Int} {k : Nat} (hneg : ¬ n < 0) (hk : nd n.natAbs = k) : numText n = lowD n.natAbs k := by
  unfold numText sign
  rw [if_neg hneg, hk]; rfl
theorem numText_neg {n : Int} {k : Nat} (hneg : n < 0) (hk : nd n.natAbs = k) : numText n = 45 :: lowD n.natAbs k := by
  unfold numText sign
  rw [if_pos hneg, hk]; rfl
theorem nd_here {m k : Nat} (hm : m ≤ 9223372036854775808) (hk : k < nd m) (h0 : m / 10 ^ (k + 1) = 0) : nd m = k + 1 := by
  apply Classical.byContradiction
  intro h
  exact (nd_spec hm).2 (k + 1) (by omega) (by omega) h0
theorem nd_more {m k : Nat} (hm : m ≤ 9223372036854775808) (hk : k < nd m) (h0 : m / 10 ^ (k + 1) ≠ 0) : k + 1 < nd m := by
  apply Classical.byContradiction
  intro h
  have e : nd m = k + 1 := by omega
  exact h0 (e ▸ (nd_spec hm).1)
theorem filled_neg {wr : World} {B k m : Nat} (q : Nat) (hq : q + (k + 1) = 20) (h : Filled wr B k m) : ∀ j, j < (45 :: lowD m k).length → (wr.setCell ⟨B, q, none⟩ (.int .u8 45)).cell? ⟨B, q + j, none⟩ = some (byteV ((45 :: lowD m k).getD j 0)) := by
  intro j hj
  rw [List.length_cons, lowD_length] at hj
  cases j with
  | zero =>
    show (wr.setCell ⟨B, q, none⟩ _).cell? ⟨B, q, none⟩ = _
    rw [World.cell?_setCell_same' _ _ _ (h.1 _ (by omega)).1]
    rfl
  | succ j =>
    rw [World.cell?_setCell_other _ _ _ _ (addr_off (by omega)), List.getD_cons_succ, ← h.2 j (by omega)]
    congr 2
    omega

set_option maxHeartbeats 1000000 in
theorem nput_any (n : Int) (hn : Hid (n.natAbs ≤ 9223372036854775808)) (w : World) :
    Calls Try.prog 26 #[.int .i64 n] w fun e w' => e = .returned (.string ⟨(numText n).toArray⟩) ∧ Below w.heap.size w w' := by
  go_enter Try.func26, Try.ntmps26
  go_wp2
  go_loopw [4, 5] (fun at_ rest wr => ∃ (k : Nat) (r : Int), k < nd n.natAbs ∧ k ≤ 18 ∧ at_ = .int .i64 (20 - (k : Int)) ∧ rest = .int .i64 r ∧ Hid (r.natAbs = n.natAbs / 10 ^ k) ∧ Filled wr w.heap.size k n.natAbs ∧ Below w.heap.size w wr) (fun at_ _ _ => (intOf at_).toNat)
  case atStart =>
    refine ⟨0, n, nd_pos _, by omega, rfl, rfl, by rw [Nat.pow_zero, Nat.div_one]; rfl, ⟨fun i hi => ⟨?_, ?_⟩, fun j hj => absurd hj (Nat.not_lt_zero j)⟩, (Below.refl _ _).alloc (Nat.le_refl _) _⟩
    · rw [World.cell?_alloc_mark]
      simp [hi]
    · rw [World.frozen?_alloc_mark]
      simp
  case round =>
    obtain ⟨k, r, hk, hk18, rfl, rfl, hr, hf, hb⟩ := hrel
    have hd : (r.tmod 10).natAbs = n.natAbs / 10 ^ k % 10 := by rw [natAbs_tmod, hr.out]
    have hd10 : n.natAbs / 10 ^ k % 10 < 10 := Nat.mod_lt _ (by omega)
    have Hd := Lib.hid hd
    have Hd10 := Lib.hid hd10
    clear hd hd10
    have hfz := (hf.1 (20 - k - 1) (by omega)).2
    obtain ⟨v0, hv0⟩ := Option.isSome_iff_exists.1 (hf.1 (20 - k - 1) (by omega)).1
    have hnx := Lib.hid (natAbs_next hr.out hn.out)
    have hf' := filled_step hf (by omega)
    have hb' : Below w.heap.size w (wr.setCell ⟨w.heap.size, 20 - k - 1, none⟩ (.int .u8 ((dig (n.natAbs / 10 ^ k % 10)).toNat : Int))) := hb.setCell (Nat.le_refl _) _
    by_cases h0 : n.natAbs / 10 ^ (k + 1) = 0
    · have hz : (wrap64 (r.tdiv 10) == 0) = true := by
        rw [beq_iff_eq]; have := hnx.out; omega
      have H0 := Lib.hid (nd_here hn.out hk h0)
      clear h0
      by_cases hneg : n < 0
      · obtain ⟨v1, hv1⟩ := Option.isSome_iff_exists.1 (hf.1 (20 - k - 1 - 1) (by omega)).1
        have hfz1 := (hf.1 (20 - k - 1 - 1) (by omega)).2
        have hs := fun w' => slice_buf w.heap.size (20 - k - 1 - 1) (20 - (k : Int) - 1 - 1) (by omega) (by omega) w'
        have hcv := conv_cells (n := 20 - (20 - k - 1 - 1)) (by rw [List.length_cons, lowD_length]; omega) (filled_neg (20 - k - 1 - 1) (by omega) hf')
        have hb2 := hb'.setCell (p := ⟨w.heap.size, 20 - k - 1 - 1, none⟩) (Nat.le_refl _) (.int .u8 45)
        have HT := Lib.hid (numText_neg hneg H0.out)
        go_wp2_with (first | ((with_reducible refine (digit_val _ _ Hd.out Hd10.out _).mono ?_); rintro e w' ⟨rfl, rfl⟩))
        go_ret
        exact ⟨ret_str (by rw [HT.out]), hb2⟩
      · have hs := fun w' => slice_buf w.heap.size (20 - k - 1) (20 - (k : Int) - 1) (by omega) (by omega) w'
        have hcv := conv_cells (n := 20 - (20 - k - 1)) (off := 20 - k - 1) (by rw [lowD_length]; omega) (fun j hj => hf'.2 j (by rwa [lowD_length] at hj))
        have HT := Lib.hid (numText_pos hneg H0.out)
        go_wp2_with (first | ((with_reducible refine (digit_val _ _ Hd.out Hd10.out _).mono ?_); rintro e w' ⟨rfl, rfl⟩))
        go_ret
        exact ⟨ret_str (by rw [HT.out]), hb'⟩
    · have hz : (wrap64 (r.tdiv 10) == 0) = false := by
        rw [beq_eq_false_iff_ne]; intro h; have := hnx.out; rw [h] at this; exact h0 this.symm
      have H0 := Lib.hid (nd_more hn.out hk h0)
      have H1 := Lib.hid (nd_le hn.out)
      clear h0
      go_wp2_with (first | ((with_reducible refine (digit_val _ _ Hd.out Hd10.out _).mono ?_); rintro e w' ⟨rfl, rfl⟩))
      go_roundw
      case rel => exact ⟨k + 1, _, H0.out, by have := H0.out; have := H1.out; omega, by go_num, rfl, hnx, hf', hb'⟩
      case measure => simp [intOf]; omega

end Go.Proofs.Ytafigegbjcbdoaa
