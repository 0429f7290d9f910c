/- The walks of Get of package flo, and of its reference: the float that a text is. -/
import Derived.Test.YtafigegbjcbdoaaFloRP
namespace Go.Proofs.Ytafigegbjcbdoaa
open Go.RowKit Flo

def GetIs (l : List UInt8) (e : Ending) : Prop := e = .returned (.tuple #[.int .i64 (getV l).1, .bool (getV l).2])
theorem getIs_no {l : List UInt8} (h : getV l = (0, false)) : GetIs l (.returned (.tuple #[.int .i64 0, .bool false])) := by unfold GetIs; rw [h]
theorem getIs_yes {l : List UInt8} {n : Int} (h : getV l = (n, true)) : GetIs l (.returned (.tuple #[.int .i64 n, .bool true])) := by unfold GetIs; rw [h]
theorem getV_long {l : List UInt8} (h : l.length ≠ 18) : getV l = (0, false) := by simp [getV, h]

set_option maxHeartbeats 400000 in
theorem rget_long (s : ByteArray) (w : World) (h : s.size ≠ 18) :
    Calls Try.prog 23 #[.string s] w fun e w' => GetIs s.data.toList e ∧ Below w.heap.size w w' := by
  have h' : ((s.size : Int) != 18) = true := by rw [bne_iff_ne]; omega
  have H := Lib.hid (getV_long (l := s.data.toList) (by simpa using h))
  clear h
  go_enter Try.func23, Try.ntmps23
  go_wp2
  go_ret2
  exact ⟨getIs_no H.out, Below.refl _ _⟩

set_option maxHeartbeats 400000 in
theorem rget_18 (s : ByteArray) (w : World) (h : s.size = 18) :
    Calls Try.prog 23 #[.string s] w fun e w' => GetIs s.data.toList e ∧ Below w.heap.size w w' := by
  have h' : ((s.size : Int) != 18) = false := by rw [bne_eq_false_iff_eq]; omega
  go_enter Try.func23, Try.ntmps23
  go_wp2
  go_loop [4, 5, 6] (fun u i _ => ∃ k x : Nat, k ≤ 16 ∧ i = .int .i64 ((2 + k : Nat) : Int) ∧ u = .int .u64 (x : Int) ∧ Hid (x = decTo s.data.toList k)) (fun _ i _ => 18 - (intOf i).toNat)
  case atStart => exact ⟨0, 0, by omega, rfl, rfl, rfl⟩
  case round =>
    obtain ⟨k, x, hk, rfl, rfl, hx⟩ := hrel
    by_cases hlt : k < 16
    · have hs : 2 + k < s.size := by omega
      have hc := Lib.hid s[2 + k].toNat_lt
      have hg := Lib.hid (getD_at hs)
      have hx60 : Hid (x < 1152921504606846976) := by show _ < _; rw [hx.out]; exact decTo_lt60 _ hlt
      have hstep : Hid (decTo s.data.toList (k + 1) = x * 16 + nibR s[2 + k].toNat) := by show _ = _; rw [decTo, ← hx.out, hg.out]
      go_wp2
      · go_round
        case rel => exact ⟨k + 1, _, by omega, by go_num, congrArg (Value.int .u64) (nib_hi hx60.out hc.out (by assumption)), hstep.out.symm⟩
        case measure => simp [intOf]; omega
      · go_round
        case rel => exact ⟨k + 1, _, by omega, by go_num, congrArg (Value.int .u64) (nib_lo hx60.out hc.out (by assumption)), hstep.out.symm⟩
        case measure => simp [intOf]; omega
    · obtain rfl : k = 16 := by omega
      have H1 := Lib.hid (@getV_no s x hx.out)
      have H2 := Lib.hid (@getV_yes s x h hx.out)
      go_wp2_with ((with_reducible refine (rput_any ..).mono ?_); rintro e w' ⟨rfl, hb⟩)
      · go_ret2
        exact ⟨getIs_no (H1.out (by assumption)), hb⟩
      · go_ret2
        exact ⟨getIs_yes (H2.out (by assumption)), hb⟩

theorem rget_any (s : ByteArray) (w : World) :
    Calls Try.prog 23 #[.string s] w fun e w' => GetIs s.data.toList e ∧ Below w.heap.size w w' := by
  by_cases h : s.size = 18
  · exact rget_18 s w h
  · exact rget_long s w h

end Go.Proofs.Ytafigegbjcbdoaa
