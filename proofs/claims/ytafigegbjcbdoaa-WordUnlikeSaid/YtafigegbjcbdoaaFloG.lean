/- The walk of Get of package flo. -/
import Derived.Test.YtafigegbjcbdoaaFloRG
namespace Go.Proofs.Ytafigegbjcbdoaa
open Go.RowKit Flo

theorem extract_take (s : ByteArray) (n : Nat) : (s.extract 0 n).toList = s.data.toList.take n := by
  rw [ByteArray.toList_eq]; simp
theorem size_list (s : ByteArray) : s.data.toList.length = s.size := by simp

set_option maxHeartbeats 400000 in
theorem cutp_no (s : ByteArray) (w : World) (h : s.data.toList.take 2 ≠ [48, 102]) :
    Calls Try.prog 35 #[.string s, .string { data := #[48, 102] }] w fun e w' => e = .returned (.tuple #[.string s, .bool false]) ∧ w = w' := by
  have hb : (!(s.extract 0 2).toList == [48, 102]) = true := by
    rw [extract_take]; simpa using h
  clear h
  by_cases hs : 2 ≤ s.size
  all_goals
    go_enter Try.func35, Try.ntmps35
    go_wp2
    go_ret2
    exact ⟨rfl, rfl⟩

set_option maxHeartbeats 400000 in
theorem cutp_yes (s : ByteArray) (w : World) (h : s.data.toList.take 2 = [48, 102]) :
    Calls Try.prog 35 #[.string s, .string { data := #[48, 102] }] w fun e w' => e = .returned (.tuple #[.string (s.extract 2 s.size), .bool true]) ∧ w = w' := by
  have hb : (!(s.extract 0 2).toList == [48, 102]) = false := by
    rw [extract_take]; simp [h]
  have hs : 2 ≤ s.size := by
    have := congrArg List.length h
    simp at this; omega
  clear h
  go_enter Try.func35, Try.ntmps35
  go_wp2
  go_ret2
  exact ⟨rfl, rfl⟩

@[go_sem] theorem run_idx (s : ByteArray) (c : Int) (w : World) : (callFunc 40 #[.string s, .int .u8 c]).run Try.prog w = .ok (.value (.int .i64 (firstIdx s c.toNat.toUInt8))) w := by
  rw [run_callFunc_extern (e := Extern.BytealgIndexByte.indexByte) Try.func40 (by kernel_rfl) (by kernel_rfl) (by kernel_rfl) (by kernel_rfl), run_indexByte_string]
  rfl

set_option maxHeartbeats 400000 in
theorem idx_any (s : ByteArray) (c : UInt8) (w : World) :
    Calls Try.prog 36 #[.string s, .int .u8 (c.toNat : Int)] w fun e w' => e = .returned (.int .i64 (firstIdx s c)) ∧ w = w' := by
  go_enter Try.func36, Try.ntmps36
  go_wp2
  go_ret
  exact ⟨ret_int (by simp), rfl⟩

set_option maxHeartbeats 400000 in
theorem get_pre (s : ByteArray) (w : World) (h : s.data.toList.take 2 ≠ [48, 102]) :
    Calls Try.prog 30 #[.string s] w fun e w' => GetIs s.data.toList e ∧ Below w.heap.size w w' := by
  have H := Lib.hid (getV_pre h)
  go_enter Try.func30, Try.ntmps30
  go_wp2_with ((with_reducible refine (cutp_no _ _ h).mono ?_); rintro e w' ⟨rfl, rfl⟩)
  go_ret2
  exact ⟨getIs_no H.out, Below.refl _ _⟩

set_option maxHeartbeats 400000 in
theorem get_len (s : ByteArray) (w : World) (h : Hid (s.data.toList.take 2 = [48, 102])) (hl : s.size ≠ 18) :
    Calls Try.prog 30 #[.string s] w fun e w' => GetIs s.data.toList e ∧ Below w.heap.size w w' := by
  have H := Lib.hid (getV_long (l := s.data.toList) (by rw [size_list]; exact hl))
  have hs : (((s.extract 2 s.size).size : Int) != 16) = true := by
    have := congrArg List.length h.out
    simp at this ⊢; omega
  go_enter Try.func30, Try.ntmps30
  go_wp2_with ((with_reducible refine (cutp_yes _ _ h.out).mono ?_); rintro e w' ⟨rfl, rfl⟩; generalize s.extract 2 s.size = r at *)
  go_ret2
  exact ⟨getIs_no H.out, Below.refl _ _⟩

set_option maxHeartbeats 1000000 in
theorem get_18 (s : ByteArray) (w : World) (h : Hid (s.data.toList.take 2 = [48, 102])) (hl : Hid (s.size = 18)) :
    Calls Try.prog 30 #[.string s] w fun e w' => GetIs s.data.toList e ∧ Below w.heap.size w w' := by
  have hs : (s.extract 2 s.size).size = 16 := by simp [hl.out]
  have hs' : (((s.extract 2 s.size).size : Int) != 16) = false := by simp [hl.out]
  have hg : Hid (∀ k (hk : k < (s.extract 2 s.size).size), s.data.toList.getD (2 + k) 0 = (s.extract 2 s.size)[k]) := by
    intro k hk
    rw [getD_at (by have := hl.out; omega)]
    simp [ByteArray.getElem_extract]
  go_enter Try.func30, Try.ntmps30
  go_wp2_with ((with_reducible refine (cutp_yes _ _ h.out).mono ?_); rintro e w' ⟨rfl, rfl⟩; generalize s.extract 2 s.size = r at *)
  go_loop [6, 24] (fun u i => ∃ k x : Nat, k ≤ 16 ∧ i = .int .i64 (k : Int) ∧ u = .int .u64 (x : Int) ∧ Hid (x = decTo s.data.toList k) ∧ Hid (∀ j, j < k → isHex (s.data.toList.getD (2 + j) 0) = true)) (fun _ i => 16 - (intOf i).toNat)
  case atStart => exact ⟨0, 0, by omega, rfl, rfl, rfl, fun j hj => absurd hj (Nat.not_lt_zero j)⟩
  case round =>
    obtain ⟨k, x, hk, rfl, rfl, hx, hall⟩ := hrel
    by_cases hlt : k < 16
    · have hkr : k < r.size := by omega
      have hx60 : Hid (x < 1152921504606846976) := by show _ < _; rw [hx.out]; exact decTo_lt60 _ hlt
      have hgk := Lib.hid (hg.out k hkr)
      have hf := firstIdx_at r[k]
      cases hh : isHex r[k]
      · have H := Lib.hid (getV_hex (l := s.data.toList) hlt (by rw [hgk.out]; exact hh))
        rw [hh] at hf
        have hf' : firstIdx hexStr r[k] = -1 := hf
        unfold hexStr at hf'
        clear hf hh
        go_wp2_with ((with_reducible refine (idx_any ..).mono ?_); rintro e w' ⟨rfl, rfl⟩)
        go_ret2
        exact ⟨getIs_no H.out, Below.refl _ _⟩
      · rw [hh] at hf
        have hf' : firstIdx hexStr r[k] = ((nibR r[k].toNat : Nat) : Int) := hf
        unfold hexStr at hf'
        have hall' : Hid (∀ j, j < k + 1 → isHex (s.data.toList.getD (2 + j) 0) = true) := by
          intro j hj
          by_cases e : j = k
          · subst e; rw [hgk.out]; exact hh
          · exact hall.out j (by omega)
        have hstep : Hid (decTo s.data.toList (k + 1) = x * 16 + nibR r[k].toNat) := by show _ = _; rw [decTo, ← hx.out, hgk.out]
        clear hf hh
        have hdl := nibR_lt r[k].toNat
        generalize nibR r[k].toNat = d at *
        have ho := or_nib hx60.out hdl
        go_wp2_with ((with_reducible refine (idx_any ..).mono ?_); rintro e w' ⟨rfl, rfl⟩)
        go_round
        case rel => exact ⟨k + 1, _, by omega, by go_num, rfl, hstep.out.symm, hall'⟩
        case measure => simp [intOf]; omega
    · obtain rfl : k = 16 := by omega
      have hlen : s.data.toList.length = 18 := by rw [size_list]; exact hl.out
      have H1 := Lib.hid (@getV_plain _ x hlen h.out hall.out hx.out)
      have H2 := Lib.hid (@getV_unplain _ x hlen h.out hall.out hx.out)
      clear hlen
      go_wp2_with ((with_reducible refine (plain_any ..).mono ?_); rintro e w' ⟨rfl, rfl⟩)
      · go_ret2
        exact ⟨getIs_no (H2.out (by assumption)), Below.refl _ _⟩
      · go_ret2
        exact ⟨getIs_yes (H1.out (by assumption)), Below.refl _ _⟩

theorem get_any (s : ByteArray) (w : World) :
    Calls Try.prog 30 #[.string s] w fun e w' => GetIs s.data.toList e ∧ Below w.heap.size w w' := by
  by_cases h : s.data.toList.take 2 = [48, 102]
  · by_cases hl : s.size = 18
    · exact get_18 s w h hl
    · exact get_len s w h hl
  · exact get_pre s w h

end Go.Proofs.Ytafigegbjcbdoaa
