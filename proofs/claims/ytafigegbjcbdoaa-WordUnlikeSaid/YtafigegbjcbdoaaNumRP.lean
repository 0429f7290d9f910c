/- The walk of Put of the reference of numbers: a number's text. -/
import Derived.Test.YtafigegbjcbdoaaNumP
namespace Go.Proofs.Ytafigegbjcbdoaa
open Go.RowKit Num

theorem Try.infoU8n : (Try.prog.info? 5).map (fun i => (i.zero, i.size, i.bytes)) = some (some (.int .u8 0), 1, 1) := by kernel_rfl

theorem own_one_byte (w : World) (d : UInt8) (n : Int) (hn : n = (d.toNat : Int)) : (w.alloc (.cells #[.int .u8 n] 5)).ownsRow w.heap.size 5 1 (.slice (some ⟨w.heap.size, 0, none⟩) 1 1) 1 [byteV d] := by
  subst hn
  exact ⟨rfl, .inr ⟨w.heap.size, 1, _, rfl, Nat.le_refl _, heap_alloc_new w _, by omega, by unfold maxLen; omega, rfl, rfl⟩⟩
theorem own_lower {w : World} {b b' : Nat} {e : TypeId} {size : Nat} {v : Value} {n : Nat} {xs : List Value} (h : b ≤ b') (ho : w.ownsRow b' e size v n xs) : w.ownsRow b e size v n xs := by
  refine ⟨ho.1, ?_⟩
  rcases ho.2 with h1 | ⟨g, cap, cur, h1, h2, h3⟩
  · exact .inl h1
  · exact .inr ⟨g, cap, cur, h1, by omega, h3⟩

set_option maxHeartbeats 400000 in
theorem size_any (n : Int) (hn : Hid (-9223372036854775808 ≤ n ∧ n ≤ 9223372036854775807)) (w : World) :
    Calls Try.prog 34 #[.int .i64 n] w fun e w' => e = .returned (.int .u64 (n.natAbs : Int)) ∧ w = w' := by
  by_cases h : n < 0
  · have H : Hid (IntKind.u64.wrap (-(IntKind.u64.wrap n)) = (n.natAbs : Int)) := by
      show _ = _
      have := hn.out
      rw [IntKind.wrap_u64, IntKind.wrap_u64]; omega
    go_enter Try.func34, Try.ntmps34
    go_wp2
    go_ret
    exact ⟨ret_int H.out, rfl⟩
  · have H : Hid (IntKind.u64.wrap n = (n.natAbs : Int)) := by
      show _ = _
      have := hn.out
      rw [IntKind.wrap_u64]; omega
    go_enter Try.func34, Try.ntmps34
    go_wp2
    go_ret
    exact ⟨ret_int H.out, rfl⟩

set_option maxHeartbeats 1000000 in
theorem nrput_any (n : Int) (hn : Hid (-9223372036854775808 ≤ n ∧ n ≤ 9223372036854775807)) (w : World) :
    Calls Try.prog 28 #[.int .i64 n] w fun e w' => e = .returned (.string ⟨(numText n).toArray⟩) ∧ Below w.heap.size w w' := by
  obtain ⟨i0, hi, hz0, hz1, hz2⟩ := info_parts Try.infoU8n
  have hm : Hid (n.natAbs ≤ 9223372036854775808) := by show _ ≤ _; have := hn.out; omega
  go_enter Try.func28, Try.ntmps28
  go_wp2_with ((with_reducible refine (size_any _ hn _).mono ?_); rintro e w' ⟨rfl, rfl⟩)
  go_loopw [3, 4] (fun v u wr => ∃ k x : Nat, k < nd n.natAbs ∧ k ≤ 18 ∧ u = .int .u64 (x : Int) ∧ Hid (x = n.natAbs / 10 ^ k) ∧ wr.ownsRow w.heap.size 5 1 v k ((lowD n.natAbs k).map byteV) ∧ Below w.heap.size w wr) (fun _ u _ => (intOf u).toNat)
  case atStart => exact ⟨0, n.natAbs, nd_pos _, by omega, rfl, by rw [Nat.pow_zero, Nat.div_one]; rfl, World.ownsRow_nil _ _ _ _, Below.refl _ _⟩
  case round =>
    obtain ⟨k, x, hk, hk18, rfl, hx, hown, hb⟩ := hrel
    obtain ⟨d, hdd⟩ : ∃ d, d = x % 10 := ⟨_, rfl⟩
    have hdl : d < 10 := by omega
    have hd : ((x : Int) % 10) = (d : Int) := by omega
    have Hd : Hid (d = n.natAbs / 10 ^ k % 10) := by show _ = _; rw [hdd, hx.out]
    have Hx : Hid (x / 10 = n.natAbs / 10 ^ (k + 1)) := by show _ = _; rw [hx.out, Nat.div_div_eq_div_mul, Nat.pow_succ]
    have Hw : Hid (IntKind.u64.wrap ((x : Int) / 10) = ((x / 10 : Nat) : Int)) := by
      show _ = _
      have h1 := hm.out
      have h2 : x ≤ n.natAbs := by rw [hx.out]; exact Nat.div_le_self _ _
      rw [IntKind.wrap_u64]; omega
    clear hdd
    have o1 := own_one_byte (n := 48 + (d : Int)) wr (dig d) (dig_toNat hdl).symm
    have hstep : ∀ (v' : Value) (w1 : World), w1.ownsRow wr.heap.size 5 1 v' (1 + k) ([byteV (dig d)] ++ (lowD n.natAbs k).map byteV) → w1.ownsRow w.heap.size 5 1 v' (k + 1) ((lowD n.natAbs (k + 1)).map byteV) := by
      intro v' w1 h
      rw [lowD, ← Hd.out, List.map_cons, Nat.add_comm k 1]; exact own_lower hb.size h
    have HS := Lib.hid hstep
    clear hstep
    by_cases h0 : x / 10 = 0
    · have hz : (IntKind.u64.wrap ((x : Int) / 10) == 0) = true := by rw [beq_iff_eq, Hw.out]; omega
      have H0 := Lib.hid (nd_here hm.out hk (by rw [← Hx.out]; exact h0))
      clear h0
      by_cases hneg : n < 0
      · have HT := Lib.hid (numText_neg hneg H0.out)
        have hadd := fun w' => run_string_add_lists (P := Try.prog) w' [45] (lowD n.natAbs (k + 1)) (by decide) (by rw [lowD_length]; omega)
        go_wp2_with (at_builtin; refine wpList_append_own_own rfl (.tmp 11) (.tmp 12) 43 rfl wr.heap.size 5 i0 (.int .u8 0) 1 1 Try.underlying43 hi hz0 hz1 hz2 rfl (by decide) _ _ _ rfl o1 w.heap.size _ k _ rfl (hown.alloc _) (bytes_oneCell _) (by unfold maxLen; omega) (by omega) (by simp) ?_; intro v' w1 hown' hgrow; have hrun := run_string_own (P := Try.prog) (dst := 9) Try.underlying43 Try.underlying5 Try.underlying9 (HS.out _ _ hown'); have hb' : Below w.heap.size w w1 := (hb.alloc hb.size _).grown hgrow (by have := hb.size; simp; omega) (fun k hk => Nat.le_trans hb.size (o1.lt k hk).1); clear hgrow hown')
        go_ret
        exact ⟨ret_str (by rw [HT.out]), hb'⟩
      · have HT := Lib.hid (numText_pos hneg H0.out)
        go_wp2_with (at_builtin; refine wpList_append_own_own rfl (.tmp 11) (.tmp 12) 43 rfl wr.heap.size 5 i0 (.int .u8 0) 1 1 Try.underlying43 hi hz0 hz1 hz2 rfl (by decide) _ _ _ rfl o1 w.heap.size _ k _ rfl (hown.alloc _) (bytes_oneCell _) (by unfold maxLen; omega) (by omega) (by simp) ?_; intro v' w1 hown' hgrow; have hrun := run_string_own (P := Try.prog) (dst := 9) Try.underlying43 Try.underlying5 Try.underlying9 (HS.out _ _ hown'); have hb' : Below w.heap.size w w1 := (hb.alloc hb.size _).grown hgrow (by have := hb.size; simp; omega) (fun k hk => Nat.le_trans hb.size (o1.lt k hk).1); clear hgrow hown')
        go_ret
        exact ⟨ret_str (by rw [HT.out]), hb'⟩
    · have hz : (IntKind.u64.wrap ((x : Int) / 10) == 0) = false := by rw [beq_eq_false_iff_ne, Hw.out]; omega
      have H0 := Lib.hid (nd_more hm.out hk (by rw [← Hx.out]; exact h0))
      have H1 := Lib.hid (nd_le hm.out)
      have hx10 : x / 10 < x := by omega
      have Hwn : Hid ((IntKind.u64.wrap ((x : Int) / 10)).toNat < x) := by show _ < _; rw [Hw.out]; omega
      clear h0
      go_wp2_with (at_builtin; refine wpList_append_own_own rfl (.tmp 11) (.tmp 12) 43 rfl wr.heap.size 5 i0 (.int .u8 0) 1 1 Try.underlying43 hi hz0 hz1 hz2 rfl (by decide) _ _ _ rfl o1 w.heap.size _ k _ rfl (hown.alloc _) (bytes_oneCell _) (by unfold maxLen; omega) (by omega) (by simp) ?_; intro v' w1 hown' hgrow; have hown2 := HS.out _ _ hown'; have hb' : Below w.heap.size w w1 := (hb.alloc hb.size _).grown hgrow (by have := hb.size; simp; omega) (fun k hk => Nat.le_trans hb.size (o1.lt k hk).1); clear hgrow hown' hown o1)
      go_roundw
      case rel => exact ⟨k + 1, x / 10, H0.out, by have := H0.out; have := H1.out; omega, congrArg (Value.int .u64) Hw.out, Hx, hown2, hb'⟩
      case measure => simp only [intOf]; exact Hwn.out

end Go.Proofs.Ytafigegbjcbdoaa
