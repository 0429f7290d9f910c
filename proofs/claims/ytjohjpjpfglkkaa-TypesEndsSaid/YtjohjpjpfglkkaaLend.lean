/- The law of ends and heads. -/
import Derived.Test.YtjohjpjpfglkkaaRhd
namespace Go.Proofs.Ytjohjpjpfglkkaa
open Go Go.RowKit

set_option maxHeartbeats 16000000 in
set_option maxRecDepth 100000 in
theorem ends_walk (w : World) (ssa : Bool) (u1 u2 u3 u4 : Value) (fn fr : ByteArray) (g1 g2 g3 : Value) (k m n : Int) (ak : Int) (s : ByteArray) (pt : Option Addr) (lt kt : Nat) (bE bH : Bool) (Q : Prop)
    (hAw : ∀ W, Calls Try.prog 8 #[] W fun e w' => e = .returned (.bool true) ∧ Below W.heap.size W w')
    (hFew : ∀ W, Below w.heap.size w W → Calls Try.prog 9 #[.agg #[.bool ssa, u1, u2, u3, u4], .agg #[.string fn, .string fr, g1, g2, g3]] W fun e w' => Below W.heap.size W w' ∧ ∃ c : Bool, e = .returned (.bool c) ∧ (c = true → Q))
    (hE1 : ∀ W, Below w.heap.size w W → Calls Try.prog 25 #[.agg #[.string fn, .string fr, g1, g2, g3], .agg #[.int .i64 k, .int .i64 ak, .string s, .int .i64 m, .slice pt lt kt, .int .i64 n]] W fun e w' => e = .returned (.bool bE) ∧ Below W.heap.size W w')
    (hE2 : ∀ W, Below w.heap.size w W → Calls Try.prog 26 #[.agg #[.string fn, .string fr, g1, g2, g3], .agg #[.int .i64 k, .int .i64 ak, .string s, .int .i64 m, .slice pt lt kt, .int .i64 n]] W fun e w' => e = .returned (.bool bE) ∧ Below W.heap.size W w')
    (hH1 : ∀ W, Below w.heap.size w W → Q → Calls Try.prog 27 #[.agg #[.bool ssa, u1, u2, u3, u4]] W fun e w' => e = .returned (.bool bH) ∧ Below W.heap.size W w')
    (hH2 : ∀ W, Below w.heap.size w W → Q → Calls Try.prog 28 #[.agg #[.bool ssa, u1, u2, u3, u4]] W fun e w' => e = .returned (.bool bH) ∧ Below W.heap.size W w') :
    Calls Try.prog 4 #[.agg #[.bool ssa, u1, u2, u3, u4], .agg #[.string fn, .string fr, g1, g2, g3], .agg #[.int .i64 k, .int .i64 ak, .string s, .int .i64 m, .slice pt lt kt, .int .i64 n]] w fun e w' => e = .returned (.bool true) ∧ Below w.heap.size w w' := by
  have hb1 := (Below.refl w.heap.size w).alloc (Nat.le_refl _) (.cells #[.bool ssa, u1, u2, u3, u4] 27)
  have hb2 := hb1.alloc hb1.size (.cells #[.string fn, .string fr, g1, g2, g3] 30)
  have hb := hb2.alloc hb2.size (.cells #[.int .i64 k, .int .i64 ak, .string s, .int .i64 m, .slice pt lt kt, .int .i64 n] 57)
  have hP := ((Box.alloc w [.bool ssa, u1, u2, u3, u4] 27).al (.cells #[.string fn, .string fr, g1, g2, g3] 30)).al (.cells #[.int .i64 k, .int .i64 ak, .string s, .int .i64 m, .slice pt lt kt, .int .i64 n] 57)
  have hF := (Box.alloc (w.alloc (.cells #[.bool ssa, u1, u2, u3, u4] 27)) [.string fn, .string fr, g1, g2, g3] 30).al (.cells #[.int .i64 k, .int .i64 ak, .string s, .int .i64 m, .slice pt lt kt, .int .i64 n] 57)
  have hA := Box.alloc ((w.alloc (.cells #[.bool ssa, u1, u2, u3, u4] 27)).alloc (.cells #[.string fn, .string fr, g1, g2, g3] 30)) [.int .i64 k, .int .i64 ak, .string s, .int .i64 m, .slice pt lt kt, .int .i64 n] 57
  have z1 : (w.alloc (.cells #[.bool ssa, u1, u2, u3, u4] 27)).heap.size = w.heap.size + 1 := by simp
  have z2 : ((w.alloc (.cells #[.bool ssa, u1, u2, u3, u4] 27)).alloc (.cells #[.string fn, .string fr, g1, g2, g3] 30)).heap.size = w.heap.size + 1 + 1 := by simp
  rw [z1] at hF
  rw [z2] at hA
  clear hb1 hb2 z1 z2
  go_enter Try.func4, Try.ntmps4
  go_wp2_with fail
  refine (hAw _).mono ?_
  rintro e w1 ⟨rfl, hd⟩
  replace hP := hP.nx hd
  replace hF := hF.nx hd
  replace hA := hA.nx hd
  replace hb := bthen' hb hd
  have x0 := hP.c 0 _ rfl
  have x1 := hP.c 1 _ rfl
  have x2 := hP.c 2 _ rfl
  have x3 := hP.c 3 _ rfl
  have x4 := hP.c 4 _ rfl
  have y0 := hF.c 0 _ rfl
  have y1 := hF.c 1 _ rfl
  have y2 := hF.c 2 _ rfl
  have y3 := hF.c 3 _ rfl
  have y4 := hF.c 4 _ rfl
  clear hd
  go_wp2_with fail
  refine (hFew _ hb).mono ?_
  rintro e w2 ⟨hd, c, rfl, hQ⟩
  replace hP := hP.nx hd
  replace hF := hF.nx hd
  replace hA := hA.nx hd
  replace hb := bthen' hb hd
  clear hd x0 x1 x2 x3 x4 y0 y1 y2 y3 y4 hFew
  cases c
  · clear hP hF hA hE1 hE2 hH1 hH2 hQ
    go_wp2_with fail
    refine (hAw _).mono ?_
    rintro e w3 ⟨rfl, hd⟩
    replace hb := bthen' hb hd
    clear hd
    go_wp2_with fail
    go_ret
    exact ⟨rfl, hb⟩
  · have hQ := hQ rfl
    have hdr := (Below.refl w2.heap.size w2).drew
    have hE1 := fun W (hW : Below w2.heap.size w2 W) => hE1 W (bthen' hb hW)
    have hE2 := fun W (hW : Below w2.heap.size w2 W) => hE2 W (bthen' hb hW)
    have hH1 := fun W (hW : Below w2.heap.size w2 W) => hH1 W (bthen' hb hW) hQ
    have hH2 := fun W (hW : Below w2.heap.size w2 W) => hH2 W (bthen' hb hW) hQ
    go_wp2_with fail
    refine wp_region_ser (S := fun _ v => Below w2.heap.size w2 v) rfl (by kernel_rfl) hdr ?_
    iterate 15 (first | ((refine Ser.step (a1 := ?_) rfl (fun L w1 K' Q' hS hi hR hd hK => ?_) ?_ ?_; rotate_left); (· ((skip); go_simp; (try simp only [Act.put, List.setIfInBounds_toArray, List.set_cons_zero, List.set_cons_succ]); exact hK.out _ (hS))); (· rfl)) | ((refine Ser.step (a1 := ?_) rfl (fun L w1 K' Q' hS hi hR hd hK => ?_) ?_ ?_; rotate_left); (· ((have hB := hP.nx hS; have q0 := hB.c 0 _ rfl; have q1 := hB.c 1 _ rfl; have q2 := hB.c 2 _ rfl; have q3 := hB.c 3 _ rfl; have q4 := hB.c 4 _ rfl); go_simp; (try simp only [Act.put, List.setIfInBounds_toArray, List.set_cons_zero, List.set_cons_succ]); exact hK.out _ (hS))); (· rfl)) | ((refine Ser.step (a1 := ?_) rfl (fun L w1 K' Q' hS hi hR hd hK => ?_) ?_ ?_; rotate_left); (· ((have hB := hF.nx hS; have q0 := hB.c 0 _ rfl; have q1 := hB.c 1 _ rfl; have q2 := hB.c 2 _ rfl; have q3 := hB.c 3 _ rfl; have q4 := hB.c 4 _ rfl); go_simp; (try simp only [Act.put, List.setIfInBounds_toArray, List.set_cons_zero, List.set_cons_succ]); exact hK.out _ (hS))); (· rfl)) | ((refine Ser.step (a1 := ?_) rfl (fun L w1 K' Q' hS hi hR hd hK => ?_) ?_ ?_; rotate_left); (· ((have hB := hA.nx hS; have q0 := hB.c 0 _ rfl; have q1 := hB.c 1 _ rfl; have q2 := hB.c 2 _ rfl; have q3 := hB.c 3 _ rfl; have q4 := hB.c 4 _ rfl; have q5 := hB.c 5 _ rfl); go_simp; (try simp only [Act.put, List.setIfInBounds_toArray, List.set_cons_zero, List.set_cons_succ]); exact hK.out _ (hS))); (· rfl)) | ((refine Ser.step (a1 := ?_) rfl (fun L w1 K' Q' hS hi hR hd hK => ?_) ?_ ?_; rotate_left); (· (go_simp; go_wp2_with ((first | (go_at_call 25; refine (hE1 _ hS).mono ?_; rintro e w2 ⟨rfl, hb⟩) | (go_at_call 26; refine (hE2 _ hS).mono ?_; rintro e w2 ⟨rfl, hb⟩) | (go_at_call 27; refine (hH1 _ hS).mono ?_; rintro e w2 ⟨rfl, hb⟩) | (go_at_call 28; refine (hH2 _ hS).mono ?_; rintro e w2 ⟨rfl, hb⟩))); (try simp only [Act.put, List.setIfInBounds_toArray, List.set_cons_zero, List.set_cons_succ]); exact hK.out _ (bthen' hS hb))); (· rfl)))
    refine Ser.nil fun w4 hS4 => ?_
    have hb5 := bthen' hb hS4
    clear hP hF hA hE1 hE2 hH1 hH2 hAw
    go_wp2_with fail
    go_ret
    exact ⟨rfl, hb5⟩
section
open Go.ChangeShapes Go.WideShapes Go.ChangeAt Go.Deep
variable (H : Type) (enc : TypeId × Value → H) (W : World) (base : Nat) (args : Array Value) (ds gs : List (DataW H)) (before : List MemPlace)
set_option maxRecDepth 100000 in
theorem typesEnds_all (hval : ∀ (j : Nat) t v, Try.f4.params[j]? = some t → args[j]? = some v → Value.okWide Try.prog W .any base t v)
    (hW : DataW.Whole enc Try.prog Try.f4.params.toList Rows.typesEndsSpec.vars false W args.toList ds gs before)
    (hk : (DataW.weightsEach Try.prog (Try.f4.params.toList ++ Rows.typesEndsSpec.plain.varTypes Try.prog) (ds ++ gs)).all (· ≤ reachBytes) = true) :
    Calls Try.prog 4 args W fun e W' => e = .returned (.bool true) ∧ Below W.heap.size W W' := by
  obtain ⟨p, q, hA0, hV, rfl, _, _⟩ := hW
  have hA : DataW.TrodAll enc Try.prog W 0 (fun _ => true) true Try.f4.params.toList args.toList ds p := hA0
  rw [Try.params4] at hA hval hk
  obtain ⟨v0, vs0, d0, ds0, p0, q0, hargs, rfl, rfl, h0, r0⟩ := trodAll_cons hA
  obtain ⟨v1, vs1, d1, ds1, p1, q1, rfl, rfl, rfl, h1, r1⟩ := trodAll_cons r0
  obtain ⟨v2, vs2, d2, ds2, p2, q2, rfl, rfl, rfl, h2, r2⟩ := trodAll_cons r1
  obtain ⟨rfl, rfl, rfl⟩ := trodAll_nil r2
  obtain rfl : args = #[v0, v1, v2] := by cases args; simp_all
  obtain ⟨c0, rfl, k0⟩ := rd_of Try.underlying27 (hval 0 _ v0 rfl rfl) h0 (wt_of hk (j := 0) rfl rfl)
  obtain ⟨c1, rfl, k1⟩ := rd_of Try.underlying30 (hval 1 _ v1 rfl rfl) h1 (wt_of hk (j := 1) rfl rfl)
  obtain ⟨c2, rfl, k2⟩ := rd_of Try.underlying57 (hval 2 _ v2 rfl rfl) h2 (wt_of hk (j := 2) rfl rfl)
  obtain ⟨p, u1, u2, u3, u4, hp⟩ := in_p k0
  obtain ⟨f, g1, g2, g3, hf⟩ := in_f k1
  obtain ⟨k, a, pt, lt, kt, n, rfl, -⟩ := in_t k2
  have e1 := hp.e
  have e2 := hf.e
  rw [e1] at hp
  rw [e2] at hf
  rw [e1, e2]
  exact ends_walk W p.ssa u1 u2 u3 u4 f.n f.r g1 g2 g3 k a.n n a.k a.s pt lt kt (endB f k a n) (headsB p) (FewP p) awake_val
    (fun W hW => (few_val hW hp hf).mono fun e w' ⟨h1, b, h2, h3⟩ => ⟨h1, b, h2, fun h => (h3 h).1⟩)
    (fun W hW => end_val hW hf k a pt lt kt n) (fun W hW => rend_val hW hf k a pt lt kt n) (fun W hW hQ => heads_val hW hp hQ.v) (fun W hW hQ => rheads_val hW hp hQ.v)
end
end Go.Proofs.Ytjohjpjpfglkkaa
