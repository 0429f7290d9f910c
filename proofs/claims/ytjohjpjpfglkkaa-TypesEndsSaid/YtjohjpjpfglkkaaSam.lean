/- lateenref06.SameFunc and what it asks, of equal things: true. -/
import Derived.Test.YtjohjpjpfglkkaaCnf
namespace Go.Proofs.Ytjohjpjpfglkkaa
open Go.RowKit

theorem beq_s (s : ByteArray) : (s.toList == s.toList) = true := by simp
theorem eq_v (s t : ByteArray) (w : World) : (Op.equalIn 10000 40 (.agg #[.string s, .string t]) (.agg #[.string s, .string t])).run Try.prog w = .ok true w := by
  have u9 := Try.underlying9
  have a9 := Try.isAgg9
  have z9 := Try.sizeOf9
  have hS : Try.prog.underlying 40 = some (.struct (Try.prog.fieldsOf 40)) := by kernel_rfl
  have hp : Try.prog.stoodInHeld 40 = false := by kernel_rfl
  rw [show (10000 : Nat) = 9999 + 1 from rfl, run_equalIn_agg w 9999 40 _ _ hS hp]
  simp only [Program.fieldsOf, Try.underlying40]
  go_simp
theorem eq_x (s : ByteArray) (k : Int) (w : World) : (Op.equalIn 10000 47 (.agg #[.string s, .int .i64 k]) (.agg #[.string s, .int .i64 k])).run Try.prog w = .ok true w := by
  have u9 := Try.underlying9
  have a9 := Try.isAgg9
  have z9 := Try.sizeOf9
  have u3 := Try.underlying3
  have a3 := Try.isAgg3
  have z3 := Try.sizeOf3
  have hS : Try.prog.underlying 47 = some (.struct (Try.prog.fieldsOf 47)) := by kernel_rfl
  have hp : Try.prog.stoodInHeld 47 = false := by kernel_rfl
  rw [show (10000 : Nat) = 9999 + 1 from rfl, run_equalIn_agg w 9999 47 _ _ hS hp]
  simp only [Program.fieldsOf, Try.underlying47]
  go_simp
theorem eq_ag {k : Nat} (a b : Int) (s : ByteArray) (w : World) : (Op.equalIn (k + 1 + 1) 32 (.agg #[.int .i64 a, .string s, .int .i64 b]) (.agg #[.int .i64 a, .string s, .int .i64 b])).run Try.prog w = .ok true w := by
  have u3 := Try.underlying3
  have u9 := Try.underlying9
  have u2 := Try.underlying2
  have a3 := Try.isAgg3
  have z3 := Try.sizeOf3
  have a9 := Try.isAgg9
  have z9 := Try.sizeOf9
  have a2 := Try.isAgg2
  have z2 := Try.sizeOf2
  have hS : Try.prog.underlying 32 = some (.struct (Try.prog.fieldsOf 32)) := by kernel_rfl
  have hp : Try.prog.stoodInHeld 32 = false := by kernel_rfl
  rw [run_equalIn_agg w (k + 1) 32 _ _ hS hp]
  simp only [Program.fieldsOf, Try.underlying32]
  go_simp
set_option maxHeartbeats 2000000 in
theorem sameVars_val {w0 w : World} (h0 : Below w0.heap.size w0 w) {l : List Vr} {v v' : Value} (hl : Row AtV 2 w0 v l) (hl' : Row AtV 2 w0 v' l) :
    Calls Try.prog 45 #[v, v'] w fun e w' => e = .returned (.bool true) ∧ Below w.heap.size w w' := by
  obtain ⟨p, cu, rfl, -, hn, hl⟩ := hl
  obtain ⟨p', cu', rfl, -, -, hl'⟩ := hl'
  go_enter Try.func45, Try.ntmps45
  go_wp2
  go_loopw [5] (fun i wr => ∃ q : Nat, q ≤ l.length ∧ i = .int .i64 (q : Int) ∧ Below w.heap.size w wr) (fun i _ => l.length - (intOf i).toNat)
  case atStart => exact ⟨0, Nat.zero_le _, rfl, Below.refl _ _⟩
  case round =>
    obtain ⟨q, hq, rfl, hb⟩ := hrel
    by_cases hend : q = l.length
    · subst hend
      clear hl hl'
      go_wp2
      go_ret
      exact ⟨rfl, hb⟩
    · have hlt : q < l.length := by omega
      have hltI : (q : Int) < (l.length : Int) := by omega
      obtain ⟨a, rfl, ⟨c0, z0⟩, c1, z1⟩ := hl q l[q] (by simp [hlt])
      obtain ⟨a', rfl, ⟨d0, -⟩, d1, -⟩ := hl' q l[q] (by simp [hlt])
      have c0 := keepc (bthen' h0 hb) c0
      have c1 := keepc (bthen' h0 hb) c1
      have d0 := keepc (bthen' h0 hb) d0
      have d1 := keepc (bthen' h0 hb) d1
      clear hl hl'
      generalize l[q].n = s at *
      generalize l[q].t = t at *
      have hE := eq_v s t
      go_wp2
      refine wp_region_ser (S := fun _ v => v = wr.drew) rfl (by kernel_rfl) rfl ?_
      iterate 9 (((refine Ser.step (a1 := ?_) rfl (fun L w1 K' Q' hS hi hR hd hK => ?_) ?_ ?_; rotate_left); (· ((subst hS); go_simp; (try simp only [Act.put, List.setIfInBounds_toArray, List.set_cons_zero, List.set_cons_succ]); exact hK.out _ (rfl))); (· rfl)))
      refine Ser.nil fun w4 hS4 => ?_
      subst hS4
      go_wp2
      go_roundw
      case rel => exact ⟨q + 1, by omega, by go_num, hb.drew⟩
      case measure => simp [intOf]; omega
theorem eq_b (n : ByteArray) (a b : Int) (s : ByteArray) (w : World) : (Op.equalIn 10000 123 (.agg #[.string n, .int .i64 a, .string s, .int .i64 b]) (.agg #[.string n, .int .i64 a, .string s, .int .i64 b])).run Try.prog w = .ok true w := by
  have hE := fun w => eq_ag (k := 9997) a b s w
  have u9 := Try.underlying9
  have a9 := Try.isAgg9
  have z9 := Try.sizeOf9
  have a2 := Try.isAgg32
  have z2 := Try.sizeOf32
  have hS : Try.prog.underlying 123 = some (.struct (Try.prog.fieldsOf 123)) := by kernel_rfl
  have hp : Try.prog.stoodInHeld 123 = false := by kernel_rfl
  rw [show (10000 : Nat) = 9999 + 1 from rfl, run_equalIn_agg w 9999 123 _ _ hS hp]
  simp only [Program.fieldsOf, Try.underlying123]
  go_simp
theorem eq_in (n : ByteArray) (a b : Int) (s : ByteArray) (w : World) : (Op.equalIn 10000 107 (.agg #[.string n, .int .i64 a, .string s, .int .i64 b]) (.agg #[.string n, .int .i64 a, .string s, .int .i64 b])).run Try.prog w = .ok true w := by
  have hE := fun w => eq_ag (k := 9997) a b s w
  have u9 := Try.underlying9
  have a9 := Try.isAgg9
  have z9 := Try.sizeOf9
  have a2 := Try.isAgg32
  have z2 := Try.sizeOf32
  have hS : Try.prog.underlying 107 = some (.struct (Try.prog.fieldsOf 107)) := by kernel_rfl
  have hp : Try.prog.stoodInHeld 107 = false := by kernel_rfl
  rw [show (10000 : Nat) = 9999 + 1 from rfl, run_equalIn_agg w 9999 107 _ _ hS hp]
  simp only [Program.fieldsOf, Try.underlying107]
  go_simp
set_option maxHeartbeats 2000000 in
theorem sameArgs_val {w0 w : World} (h0 : Below w0.heap.size w0 w) {l : List Ag} {v v' : Value} (hl : Row AtA 3 w0 v l) (hl' : Row AtA 3 w0 v' l) :
    Calls Try.prog 69 #[v, v'] w fun e w' => e = .returned (.bool true) ∧ Below w.heap.size w w' := by
  obtain ⟨p, cu, rfl, -, hn, hl⟩ := hl
  obtain ⟨p', cu', rfl, -, -, hl'⟩ := hl'
  go_enter Try.func69, Try.ntmps69
  go_wp2
  go_loopw [5] (fun i wr => ∃ q : Nat, q ≤ l.length ∧ i = .int .i64 (q : Int) ∧ Below w.heap.size w wr) (fun i _ => l.length - (intOf i).toNat)
  case atStart => exact ⟨0, Nat.zero_le _, rfl, Below.refl _ _⟩
  case round =>
    obtain ⟨q, hq, rfl, hb⟩ := hrel
    by_cases hend : q = l.length
    · subst hend
      clear hl hl'
      go_wp2
      go_ret
      exact ⟨rfl, hb⟩
    · have hlt : q < l.length := by omega
      have hltI : (q : Int) < (l.length : Int) := by omega
      obtain ⟨a, rfl, c0, ⟨c1, -⟩, c2⟩ := hl q l[q] (by simp [hlt])
      obtain ⟨a', rfl, d0, ⟨d1, -⟩, d2⟩ := hl' q l[q] (by simp [hlt])
      have c0 := keepc (bthen' h0 hb) c0
      have c1 := keepc (bthen' h0 hb) c1
      have c2 := keepc (bthen' h0 hb) c2
      have d0 := keepc (bthen' h0 hb) d0
      have d1 := keepc (bthen' h0 hb) d1
      have d2 := keepc (bthen' h0 hb) d2
      clear hl hl'
      generalize l[q].k = k at *
      generalize l[q].s = s at *
      generalize l[q].n = n at *
      have hE := fun w => eq_ag (k := 9998) k n s w
      go_wp2
      refine wp_region_ser (S := fun _ v => v = wr.drew) rfl (by kernel_rfl) rfl ?_
      iterate 9 (((refine Ser.step (a1 := ?_) rfl (fun L w1 K' Q' hS hi hR hd hK => ?_) ?_ ?_; rotate_left); (· ((subst hS); go_simp; (try simp only [Act.put, List.setIfInBounds_toArray, List.set_cons_zero, List.set_cons_succ]); exact hK.out _ (rfl))); (· rfl)))
      refine Ser.nil fun w4 hS4 => ?_
      subst hS4
      go_wp2
      go_roundw
      case rel => exact ⟨q + 1, by omega, by go_num, hb.drew⟩
      case measure => simp [intOf]; omega
end Go.Proofs.Ytjohjpjpfglkkaa
