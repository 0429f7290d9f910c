/- awake: the answers that the document fixes. -/
import Derived.Test.YtjohjpjpfglkkaaDoorAwb
namespace Go.Proofs.YtjohjpjpfglkkaaDoor
open Go.RowKit

set_option maxHeartbeats 16000000 in
set_option maxRecDepth 100000 in
theorem awake_val (w : World) : Calls Tryd.prog 4 #[] w fun e w' => e = .returned (.bool true) ∧ Below w.heap.size w w' := by
  go_enter Tryd.func4, Tryd.ntmps4
  go_wp2_with fail
  refine (example_val w).mono ?_
  rintro e w1 ⟨hb1, vp, vf, u1, u4, g1, g2, rfl, hP, hF⟩
  have e1 := hP.e
  subst e1
  have e2 := hF.e
  subst e2
  obtain ⟨a1, k1, e3⟩ := hP.c.slice
  subst e3
  obtain ⟨a4, k4, e4⟩ := hP.f.slice
  subst e4
  obtain ⟨b1, m1, e5⟩ := hF.p.slice
  subst e5
  obtain ⟨b2, m2, e6⟩ := hF.v.slice
  subst e6
  have hbP := (Below.refl w1.heap.size w1).alloc (Nat.le_refl _) (.cells #[.bool exP.ssa, .slice a1 exP.cs.length k1, .slice none 0 0, .slice none 0 0, .slice a4 exP.fs.length k4] 27)
  have hbF := hbP.alloc hbP.size (.cells #[.string exF.n, .string exF.r, .slice b1 exF.ps.length m1, .slice b2 exF.vs.length m2, .slice none 0 0] 30)
  have hbO := hbF.alloc hbF.size (.cells #[.int .i64 2, .string ⟨#[]⟩, .int .i64 1] 42)
  have z1 : (w1.alloc (.cells #[.bool exP.ssa, .slice a1 exP.cs.length k1, .slice none 0 0, .slice none 0 0, .slice a4 exP.fs.length k4] 27)).heap.size = w1.heap.size + 1 := by simp
  have z2 : ((w1.alloc (.cells #[.bool exP.ssa, .slice a1 exP.cs.length k1, .slice none 0 0, .slice none 0 0, .slice a4 exP.fs.length k4] 27)).alloc (.cells #[.string exF.n, .string exF.r, .slice b1 exF.ps.length m1, .slice b2 exF.vs.length m2, .slice none 0 0] 30)).heap.size = w1.heap.size + 1 + 1 := by simp
  have BP := ((Box.alloc w1 [.bool exP.ssa, .slice a1 exP.cs.length k1, .slice none 0 0, .slice none 0 0, .slice a4 exP.fs.length k4] 27).al (.cells #[.string exF.n, .string exF.r, .slice b1 exF.ps.length m1, .slice b2 exF.vs.length m2, .slice none 0 0] 30)).al (.cells #[.int .i64 2, .string ⟨#[]⟩, .int .i64 1] 42)
  have BF := (Box.alloc (w1.alloc (.cells #[.bool exP.ssa, .slice a1 exP.cs.length k1, .slice none 0 0, .slice none 0 0, .slice a4 exP.fs.length k4] 27)) [.string exF.n, .string exF.r, .slice b1 exF.ps.length m1, .slice b2 exF.vs.length m2, .slice none 0 0] 30).al (.cells #[.int .i64 2, .string ⟨#[]⟩, .int .i64 1] 42)
  have BO := Box.alloc ((w1.alloc (.cells #[.bool exP.ssa, .slice a1 exP.cs.length k1, .slice none 0 0, .slice none 0 0, .slice a4 exP.fs.length k4] 27)).alloc (.cells #[.string exF.n, .string exF.r, .slice b1 exF.ps.length m1, .slice b2 exF.vs.length m2, .slice none 0 0] 30)) [.int .i64 2, .string ⟨#[]⟩, .int .i64 1] 42
  rw [z1] at BF
  rw [z2] at BO
  clear z1 z2 hbP hbF
  go_wp2_with fail
  generalize hG : World.alloc (World.alloc (World.alloc w1 _) _) _ = W at *
  clear hG
  have hP := hP.kp hbO
  have hF := hF.kp hbO
  have hb2 := bthen' hb1 hbO
  clear hbO hb1
  generalize w1.heap.size = B at *
  have lP := BP.lt
  have lF := BF.lt
  have lO := BO.lt
  refine wp_region_serF (S := AwS W [.int .i64 2, .string ⟨#[]⟩, .int .i64 1, .int .i64 1, .string ⟨#[121]⟩, .int .i64 0] [.int .i64 0, .string ⟨#[]⟩, .string ⟨#[]⟩, .slice none 0 0, .slice none 0 0, .slice none 0 0]) rfl (by kernel_rfl) ⟨(Below.refl _ _).drew, (fun e => Bool.noConfusion e), (fun e => Bool.noConfusion e), (fun e => Bool.noConfusion e)⟩ ?_
  ((refine SerF.step (a1 := ?_) (fun _ => rfl) (fun V L w1 K' Q' hS hi hR hd hK => ?_) ?_ ?_ ?_; rotate_left); (· ((have hO := BO.below lO hS.b; have o0 := hO.c 0 _ rfl; have o1 := hO.c 1 _ rfl; have o2 := hO.c 2 _ rfl); go_simp; (try simp only [Act.put, List.setIfInBounds_toArray, List.set_cons_zero, List.set_cons_succ]); exact hK.out _ (hS.pass rfl rfl rfl))); (· (intro V; rfl)); (· (exact fun _ _ _ _ _ _ => rfl)))
  ((refine SerF.step (a1 := ?_) (fun _ => rfl) (fun V L w1 K' Q' hS hi hR hd hK => ?_) ?_ ?_ ?_; rotate_left); (· (go_simp; go_wp2_with ((refine (arg_val _ _).mono ?_; rintro e w2 ⟨rfl, hb⟩)); (try simp only [Act.put, List.setIfInBounds_toArray, List.set_cons_zero, List.set_cons_succ]); exact hK.out _ ((hS.next hb).pass rfl rfl rfl))); (· (intro V; rfl)); (· (exact fun _ _ _ _ _ _ => rfl)))
  refine SerF.free (fun _ => rfl) (fun V L w1 K' Q' hS hi hR hd hK => ?_) ?_
  · have e5 := hR.out 5 2 (by kernel_rfl) hi
    go_simp
    (try simp only [Act.put, List.setIfInBounds_toArray, List.set_cons_zero, List.set_cons_succ])
    exact hK.out _ _ rfl (hS.m2 _ e5)
  (try simp only [Act.put, List.setIfInBounds_toArray, List.set_cons_zero, List.set_cons_succ])
  (refine SerF.step (a1 := ?_) (fun _ => rfl) (fun V L w1 K' Q' hS hi hR hd hK => ?_) ?_ ?_ ?_; rotate_left)
  · have hL := hd.out 2 (by kernel_rfl)
    have e : V (0 + 1 + 1) = .slice (some ⟨Classical.choose (hS.c2 hL), 0, none⟩) 2 2 := (hS.c2 hL).sl
    rw [e]
    replace e := Lib.hid e
    go_simp
    (try simp only [Act.put, List.setIfInBounds_toArray, List.set_cons_zero, List.set_cons_succ])
    rw [← e.out]
    exact hK.out _ (hS.pass rfl rfl rfl)
  · intro V; rfl
  · intro L V V' hR hi hk
    have e1 : V (0 + 1 + 1) = V' (0 + 1 + 1) := hk 2 (right_on hR (by kernel_rfl) hi)
    show Value.agg #[_, _, _, V (0 + 1 + 1), _, _] = Value.agg #[_, _, _, V' (0 + 1 + 1), _, _]
    rw [e1]
  refine SerF.free (fun _ => rfl) (fun V L w1 K' Q' hS hi hR hd hK => ?_) ?_
  · have e5 := hR.out 5 4 (by kernel_rfl) hi
    go_simp
    (try simp only [Act.put, List.setIfInBounds_toArray, List.set_cons_zero, List.set_cons_succ])
    exact hK.out _ _ rfl (hS.m4 _ e5)
  (try simp only [Act.put, List.setIfInBounds_toArray, List.set_cons_zero, List.set_cons_succ])
  (refine SerF.step (a1 := ?_) (fun _ => rfl) (fun V L w1 K' Q' hS hi hR hd hK => ?_) ?_ ?_ ?_; rotate_left)
  · have hL := hd.out 2 (by kernel_rfl)
    have hL4 := hd.out 4 (by kernel_rfl)
    have e : V (0 + 1 + 1) = .slice (some ⟨Classical.choose (hS.c2 hL), 0, none⟩) 2 2 := (hS.c2 hL).sl
    have hx := Classical.choose_spec (hS.c4 hL4)
    have e4 : V (0 + 1 + 1 + 1 + 1) = .pointer (some ⟨Classical.choose (hS.c4 hL4), 0, none⟩) := hx.1
    have hB := hx.2.2.2
    have hd5 := fun p hp => hS.d5 (p := p) hL hL4 hi hp rfl
    have hd5 := hd5 _ hx.1
    generalize Classical.choose (hS.c4 hL4) = q at hB e4 hd5
    rw [hi] at hB
    replace hB : Box w1 q [.int .i64 0, .string ⟨#[]⟩, .string ⟨#[]⟩, .slice none 0 0, .slice none 0 0, .slice none 0 0] := hB
    have b0 := hB.c 0 _ rfl
    have b1 := hB.c 1 _ rfl
    have b2 := hB.c 2 _ rfl
    have b3 := hB.c 3 _ rfl
    have b4 := hB.c 4 _ rfl
    have b5 := hB.c 5 _ rfl
    have f0 := hB.f 0 (by simp)
    have f1 := hB.f 1 (by simp)
    have f2 := hB.f 2 (by simp)
    have f3 := hB.f 3 (by simp)
    have f4 := hB.f 4 (by simp)
    have f5 := hB.f 5 (by simp)
    rw [e, e4]
    replace e := Lib.hid e
    replace e4 := Lib.hid e4
    clear hx
    go_simp
    (try simp only [Act.put, List.setIfInBounds_toArray, List.set_cons_zero, List.set_cons_succ])
    rw [← e.out, ← e4.out]
    exact hK.out _ hd5
  · intro V; rfl
  · exact fun _ _ _ _ _ _ => rfl
  refine SerF.nil fun V w4 hS4 => ?_
  obtain ⟨hb3, c2, c4, -⟩ := hS4
  replace c2 := c2 rfl
  obtain ⟨q4, e4, hq4, hl4, B4⟩ := c4 rfl
  replace B4 : Box w4 q4 [.int .i64 1, .string ⟨#[120]⟩, .string ⟨#[]⟩, V 2, .slice none 0 0, .slice none 0 0] := B4
  obtain ⟨q2, e2, hq2, hl2, B2⟩ := c2
  rw [e2] at B4
  rw [e2, e4]
  clear e4 c4
  have BP := BP.below lP hb3
  have BF := BF.below lF hb3
  have BO := BO.below lO hb3
  have hP := hP.kp hb3
  have hF := hF.kp hb3
  have hb4 := bthen' hb2 hb3
  clear hb3 hb2 lP lF lO hq2 hq4
  go_wp2_with fail
  refine (arg_val _ _).mono ?_
  rintro e w5 ⟨rfl, hb5⟩
  have hbA := (Below.refl w5.heap.size w5).alloc (Nat.le_refl _) (.cells #[.int .i64 1, .string ⟨#[111]⟩, .int .i64 0] 42)
  have hbA := hbA.alloc hbA.size (.cells #[.int .i64 26, .string ⟨#[120]⟩, .string ⟨#[97]⟩, .slice (some ⟨w5.heap.size, 0, none⟩) 1 1, .slice none 0 0, .slice none 0 0] 35)
  have hbA := hb5.trans (hbA.mono hb5.size)
  have C5 := (Box.alloc w5 [.int .i64 1, .string ⟨#[111]⟩, .int .i64 0] 42).al (.cells #[.int .i64 26, .string ⟨#[120]⟩, .string ⟨#[97]⟩, .slice (some ⟨w5.heap.size, 0, none⟩) 1 1, .slice none 0 0, .slice none 0 0] 35)
  have D5 := Box.alloc (w5.alloc (.cells #[.int .i64 1, .string ⟨#[111]⟩, .int .i64 0] 42)) [.int .i64 26, .string ⟨#[120]⟩, .string ⟨#[97]⟩, .slice (some ⟨w5.heap.size, 0, none⟩) 1 1, .slice none 0 0, .slice none 0 0] 35
  have z5 : (w5.alloc (.cells #[.int .i64 1, .string ⟨#[111]⟩, .int .i64 0] 42)).heap.size = w5.heap.size + 1 := by simp
  rw [z5] at D5
  clear z5
  go_wp2_with fail
  generalize hG : World.alloc (World.alloc w5 _) _ = X5 at *
  clear hG
  have BP := BP.below BP.lt hbA
  have BF := BF.below BF.lt hbA
  have BO := BO.below BO.lt hbA
  have B4 := B4.below B4.lt hbA
  have B2 := B2.below B2.lt hbA
  have hP := hP.kp hbA
  have hF := hF.kp hbA
  have hb6 := bthen' hb4 hbA
  clear hbA hb4 hb5 hl2 hl4
  generalize w5.heap.size = r5 at *
  refine (arg_val _ _).mono ?_
  rintro e w6 ⟨rfl, hb7⟩
  have hbA := (Below.refl w6.heap.size w6).alloc (Nat.le_refl _) (.cells #[.int .i64 1, .string ⟨#[111]⟩, .int .i64 0] 42)
  have hbA := hbA.alloc hbA.size (.cells #[.int .i64 26, .string ⟨#[111]⟩, .string ⟨#[97]⟩, .slice (some ⟨w6.heap.size, 0, none⟩) 1 1, .slice none 0 0, .slice none 0 0] 35)
  have hbA := hb7.trans (hbA.mono hb7.size)
  have C6 := (Box.alloc w6 [.int .i64 1, .string ⟨#[111]⟩, .int .i64 0] 42).al (.cells #[.int .i64 26, .string ⟨#[111]⟩, .string ⟨#[97]⟩, .slice (some ⟨w6.heap.size, 0, none⟩) 1 1, .slice none 0 0, .slice none 0 0] 35)
  have D6 := Box.alloc (w6.alloc (.cells #[.int .i64 1, .string ⟨#[111]⟩, .int .i64 0] 42)) [.int .i64 26, .string ⟨#[111]⟩, .string ⟨#[97]⟩, .slice (some ⟨w6.heap.size, 0, none⟩) 1 1, .slice none 0 0, .slice none 0 0] 35
  have z6 : (w6.alloc (.cells #[.int .i64 1, .string ⟨#[111]⟩, .int .i64 0] 42)).heap.size = w6.heap.size + 1 := by simp
  rw [z6] at D6
  clear z6
  have BP := BP.below BP.lt hbA
  have BF := BF.below BF.lt hbA
  have BO := BO.below BO.lt hbA
  have B4 := B4.below B4.lt hbA
  have B2 := B2.below B2.lt hbA
  have C5 := C5.below C5.lt hbA
  have D5 := D5.below D5.lt hbA
  have hP := hP.kp hbA
  have hF := hF.kp hbA
  have hb := bthen' hb6 hbA
  clear hbA hb6 hb7
  go_upto_region 6 with fail
  generalize hG : World.alloc (World.alloc w6 _) _ = X at *
  clear hG
  have lBP := BP.lt
  have lBF := BF.lt
  have lBO := BO.lt
  have lB4 := B4.lt
  have lD5 := D5.lt
  have lD6 := D6.lt
  have hx4 : ValI X (.agg #[.int .i64 1, .string ⟨#[120]⟩, .string ⟨#[]⟩, .slice (some ⟨q2, 0, none⟩) 2 2, .slice none 0 0, .slice none 0 0]) exSum (.slice (some ⟨q2, 0, none⟩) 2 2) (.slice none 0 0) (.slice none 0 0) :=
    ⟨rfl, ⟨by decide, by decide⟩, row2 ⟨B2.c 0 _ rfl, ⟨B2.c 1 _ rfl, by decide⟩, B2.c 2 _ rfl⟩ ⟨B2.c 3 _ rfl, ⟨B2.c 4 _ rfl, by decide⟩, B2.c 5 _ rfl⟩, row_nil, row_nil⟩
  have hx5 : ValI X (.agg #[.int .i64 26, .string ⟨#[120]⟩, .string ⟨#[97]⟩, .slice (some ⟨r5, 0, none⟩) 1 1, .slice none 0 0, .slice none 0 0]) exLoad (.slice (some ⟨r5, 0, none⟩) 1 1) (.slice none 0 0) (.slice none 0 0) :=
    ⟨rfl, ⟨by decide, by decide⟩, row1 ⟨C5.c 0 _ rfl, ⟨C5.c 1 _ rfl, by decide⟩, C5.c 2 _ rfl⟩, row_nil, row_nil⟩
  have hx6 : ValI X (.agg #[.int .i64 26, .string ⟨#[111]⟩, .string ⟨#[97]⟩, .slice (some ⟨w6.heap.size, 0, none⟩) 1 1, .slice none 0 0, .slice none 0 0]) exBad (.slice (some ⟨w6.heap.size, 0, none⟩) 1 1) (.slice none 0 0) (.slice none 0 0) :=
    ⟨rfl, ⟨by decide, by decide⟩, row1 ⟨C6.c 0 _ rfl, ⟨C6.c 1 _ rfl, by decide⟩, C6.c 2 _ rfl⟩, row_nil, row_nil⟩
  have hI4 := fun v (hv : Below X.heap.size X v) => instr_val hv hP hF hx4
  have hI5 := fun v (hv : Below X.heap.size X v) => instr_val hv hP hF hx5
  have hI6 := fun v (hv : Below X.heap.size X v) => instr_val hv hP hF hx6
  rw [ex_sum] at hI4
  rw [ex_load] at hI5
  rw [ex_bad] at hI6
  have hE1 := fun v (hv : Below X.heap.size X v) => end_val hv hF 3 ⟨4, ⟨#[]⟩, 0⟩ none 0 0 0
  have hE2 := fun v (hv : Below X.heap.size X v) => end_val hv hF 3 exOne none 0 0 0
  rw [ex_ret] at hE1
  rw [ex_no] at hE2
  have hH := heads_val (Below.refl X.heap.size X) hP ex_few
  rw [ex_heads] at hH
  clear hx4 hx5 hx6 hP hF B2 C5 C6
  have p0 := BP.c 0 _ rfl
  have p1 := BP.c 1 _ rfl
  have p2 := BP.c 2 _ rfl
  have p3 := BP.c 3 _ rfl
  have p4 := BP.c 4 _ rfl
  go_wp2_with fail
  refine hH.mono ?_
  rintro e y1 ⟨rfl, h1⟩
  clear hH p0 p1 p2 p3 p4
  have p0 := (BP.below lBP h1).c 0 _ rfl
  have p1 := (BP.below lBP h1).c 1 _ rfl
  have p2 := (BP.below lBP h1).c 2 _ rfl
  have p3 := (BP.below lBP h1).c 3 _ rfl
  have p4 := (BP.below lBP h1).c 4 _ rfl
  have f0 := (BF.below lBF h1).c 0 _ rfl
  have f1 := (BF.below lBF h1).c 1 _ rfl
  have f2 := (BF.below lBF h1).c 2 _ rfl
  have f3 := (BF.below lBF h1).c 3 _ rfl
  have f4 := (BF.below lBF h1).c 4 _ rfl
  have i0 := (B4.below lB4 h1).c 0 _ rfl
  have i1 := (B4.below lB4 h1).c 1 _ rfl
  have i2 := (B4.below lB4 h1).c 2 _ rfl
  have i3 := (B4.below lB4 h1).c 3 _ rfl
  have i4 := (B4.below lB4 h1).c 4 _ rfl
  have i5 := (B4.below lB4 h1).c 5 _ rfl
  have hI := hI4 _ h1
  go_wp2_with fail
  refine hI.mono ?_
  rintro e y2 ⟨rfl, hn⟩
  have h2 := bthen' h1 hn
  clear hn hI h1 p0 p1 p2 p3 p4 f0 f1 f2 f3 f4 i0 i1 i2 i3 i4 i5
  have p0 := (BP.below lBP h2).c 0 _ rfl
  have p1 := (BP.below lBP h2).c 1 _ rfl
  have p2 := (BP.below lBP h2).c 2 _ rfl
  have p3 := (BP.below lBP h2).c 3 _ rfl
  have p4 := (BP.below lBP h2).c 4 _ rfl
  have f0 := (BF.below lBF h2).c 0 _ rfl
  have f1 := (BF.below lBF h2).c 1 _ rfl
  have f2 := (BF.below lBF h2).c 2 _ rfl
  have f3 := (BF.below lBF h2).c 3 _ rfl
  have f4 := (BF.below lBF h2).c 4 _ rfl
  have i0 := (D5.below lD5 h2).c 0 _ rfl
  have i1 := (D5.below lD5 h2).c 1 _ rfl
  have i2 := (D5.below lD5 h2).c 2 _ rfl
  have i3 := (D5.below lD5 h2).c 3 _ rfl
  have i4 := (D5.below lD5 h2).c 4 _ rfl
  have i5 := (D5.below lD5 h2).c 5 _ rfl
  have hI := hI5 _ h2
  go_wp2_with fail
  refine hI.mono ?_
  rintro e y3 ⟨rfl, hn⟩
  have h3 := bthen' h2 hn
  clear hn hI h2 p0 p1 p2 p3 p4 f0 f1 f2 f3 f4 i0 i1 i2 i3 i4 i5
  have p0 := (BP.below lBP h3).c 0 _ rfl
  have p1 := (BP.below lBP h3).c 1 _ rfl
  have p2 := (BP.below lBP h3).c 2 _ rfl
  have p3 := (BP.below lBP h3).c 3 _ rfl
  have p4 := (BP.below lBP h3).c 4 _ rfl
  have f0 := (BF.below lBF h3).c 0 _ rfl
  have f1 := (BF.below lBF h3).c 1 _ rfl
  have f2 := (BF.below lBF h3).c 2 _ rfl
  have f3 := (BF.below lBF h3).c 3 _ rfl
  have f4 := (BF.below lBF h3).c 4 _ rfl
  have i0 := (D6.below lD6 h3).c 0 _ rfl
  have i1 := (D6.below lD6 h3).c 1 _ rfl
  have i2 := (D6.below lD6 h3).c 2 _ rfl
  have i3 := (D6.below lD6 h3).c 3 _ rfl
  have i4 := (D6.below lD6 h3).c 4 _ rfl
  have i5 := (D6.below lD6 h3).c 5 _ rfl
  have hI := hI6 _ h3
  go_wp2_with fail
  refine hI.mono ?_
  rintro e y4 ⟨rfl, hn⟩
  have h4 := bthen' h3 hn
  clear hn hI h3 p0 p1 p2 p3 p4 f0 f1 f2 f3 f4 i0 i1 i2 i3 i4 i5
  have f0 := (BF.below lBF h4).c 0 _ rfl
  have f1 := (BF.below lBF h4).c 1 _ rfl
  have f2 := (BF.below lBF h4).c 2 _ rfl
  have f3 := (BF.below lBF h4).c 3 _ rfl
  have f4 := (BF.below lBF h4).c 4 _ rfl
  have hI := hE1 _ h4
  go_wp2_with fail
  refine hI.mono ?_
  rintro e y5 ⟨rfl, hn⟩
  have h5 := bthen' h4 hn
  clear hn hI h4 f0 f1 f2 f3 f4
  have f0 := (BF.below lBF h5).c 0 _ rfl
  have f1 := (BF.below lBF h5).c 1 _ rfl
  have f2 := (BF.below lBF h5).c 2 _ rfl
  have f3 := (BF.below lBF h5).c 3 _ rfl
  have f4 := (BF.below lBF h5).c 4 _ rfl
  have o0 := (BO.below lBO h5).c 0 _ rfl
  have o1 := (BO.below lBO h5).c 1 _ rfl
  have o2 := (BO.below lBO h5).c 2 _ rfl
  have hI := hE2 _ h5
  go_wp2_with fail
  refine hI.mono ?_
  rintro e y6 ⟨rfl, hn⟩
  have h6 := bthen' hb (bthen' h5 hn)
  clear hn hI h5 f0 f1 f2 f3 f4 o0 o1 o2
  go_wp2_with fail
  go_ret
  exact ⟨rfl, h6⟩
end Go.Proofs.YtjohjpjpfglkkaaDoor
