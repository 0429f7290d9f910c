/- The reference's Class, Func, Extern. -/
import Derived.Test.YtjohjpjpfglkkaaDoorTyp
namespace Go.Proofs.YtjohjpjpfglkkaaDoor
open Go.RowKit

set_option maxHeartbeats 4000000 in
theorem rlookC_val {w0 w : World} (h0 : Below w0.heap.size w0 w) {p : Pg} {v v1 v2 v3 v4 : Value} (hp : ValP w0 v p v1 v2 v3 v4) (x : ByteArray) :
    Calls Tryd.prog 20 #[v, .string x] w fun e w' => Below w.heap.size w w' ∧ OutC w0 (findB Cl.n x p.cs) e := by
  obtain ⟨rfl, hc, hg, hx, hf⟩ := hp
  obtain ⟨pl, kl, rfl, -, hn, hl⟩ := hc
  have hb1 := (Below.refl w.heap.size w).alloc (Nat.le_refl _) (.cells #[.bool p.ssa, (.slice pl p.cs.length kl), v2, v3, v4] 27)
  have hb2 := hb1.alloc hb1.size (.cells #[.string ⟨#[]⟩, .slice none 0 0] 67)
  have hP := (Box.alloc w [.bool p.ssa, (.slice pl p.cs.length kl), v2, v3, v4] 27).al (.cells #[.string ⟨#[]⟩, .slice none 0 0] 67)
  have hB := Box.alloc (w.alloc (.cells #[.bool p.ssa, (.slice pl p.cs.length kl), v2, v3, v4] 27)) [(.string ⟨#[]⟩), (.slice none 0 0)] 67
  have hs : (w.alloc (.cells #[.bool p.ssa, (.slice pl p.cs.length kl), v2, v3, v4] 27)).heap.size = w.heap.size + 1 := by simp
  rw [hs] at hB
  clear hb1 hs hg hx hf
  generalize hf : findB Cl.n x p.cs = r0
  go_enter Tryd.func20, Tryd.ntmps20
  go_wp2
  go_loopw [6] (fun i wr => ∃ q : Nat, q ≤ p.cs.length ∧ i = .int .i64 (q : Int) ∧ Below w.heap.size w wr ∧ Box wr w.heap.size [.bool p.ssa, (.slice pl p.cs.length kl), v2, v3, v4] ∧ Box wr (w.heap.size + 1) [(.string ⟨#[]⟩), (.slice none 0 0)] ∧ findB Cl.n x (p.cs.drop q) = r0) (fun i _ => p.cs.length - (intOf i).toNat)
  case atStart => exact ⟨0, Nat.zero_le _, rfl, hb2, hP, hB, hf⟩
  case round =>
    clear hb2 hP hB hf
    obtain ⟨q, hq, rfl, hb, hP, hB, hf⟩ := hrel
    have p1 := hP.c 1 _ rfl
    have hw1 : w.heap.size ≤ w.heap.size + 1 := Nat.le_succ _
    have hlt2 := hB.lt
    have d0 := hB.c 0 _ rfl
    have g0 := hB.f 0 (by simp)
    have d1 := hB.c 1 _ rfl
    have g1 := hB.f 1 (by simp)
    by_cases hend : q = p.cs.length
    · subst hend
      rw [List.drop_length] at hf
      subst hf
      have hb6 := hb
      have hb6 := hb6.setCell (p := ⟨w.heap.size + 1, 0, none⟩) hw1 (.string ⟨#[]⟩)
      have hb6 := hb6.setCell (p := ⟨w.heap.size + 1, 1, none⟩) hw1 (.slice none 0 0)
      clear hl hP hB hb
      go_wp2
      ((try simp only [Exit.inBlock, Exit.then]); refine bodyPost_ret_by (v := (.tuple #[.agg #[.string ⟨#[]⟩, .slice none 0 0], .bool false])) ((results_cell_tmp rfl _ _ _).trans (by go_simp; try rfl)) rfl ?_)
      exact ⟨hb6, rfl⟩
    · have hlt : q < p.cs.length := by omega
      have hltI : (q : Int) < (p.cs.length : Int) := by omega
      rw [List.drop_eq_getElem_cons hlt, findB] at hf
      obtain ⟨a, rfl, hA⟩ := hl q p.cs[q] (by simp [hlt])
      clear hl
      generalize p.cs[q] = y at *
      obtain ⟨⟨c0, z0⟩, u1, c1, r1⟩ := hA
      have hb0 := bthen' h0 hb
      have c0 := keepc hb0 c0
      have c1 := keepc hb0 c1
      obtain ⟨p1', k1, rfl⟩ := r1.slice
      by_cases hy : y.n = x
      · have he := seq_t hy
        rw [if_pos hy] at hf
        subst hf
        have hb6 := hb
        have hb6 := hb6.setCell (p := ⟨w.heap.size + 1, 0, none⟩) hw1 (.string y.n)
        have hb6 := hb6.setCell (p := ⟨w.heap.size + 1, 1, none⟩) hw1 (.slice p1' y.fs.length k1)
        clear hy hP hB hb hend hq hlt
        go_wp2
        ((try simp only [Exit.inBlock, Exit.then]); refine bodyPost_ret_by (v := (.tuple #[.agg #[.string y.n, .slice p1' y.fs.length k1], .bool true])) ((results_cell_tmp rfl _ _ _).trans (by go_simp; try rfl)) rfl ?_)
        exact ⟨hb6, _, _, rfl, ⟨rfl, z0, r1⟩⟩
      · have he := seq_f hy
        rw [if_neg hy] at hf
        go_wp2
        go_roundw
        case rel => exact ⟨q + 1, by omega, by go_num, hb, hP, hB, hf⟩
        case measure => simp [intOf]; omega
set_option maxHeartbeats 4000000 in
theorem rlookF_val {w0 w : World} (h0 : Below w0.heap.size w0 w) {p : Pg} {v v1 v2 v3 v4 : Value} (hp : ValP w0 v p v1 v2 v3 v4) (x : ByteArray) :
    Calls Tryd.prog 25 #[v, .string x] w fun e w' => Below w.heap.size w w' ∧ OutF w0 (findB Fn.n x p.fs) e := by
  obtain ⟨rfl, hc, hg, hx, hf⟩ := hp
  obtain ⟨pl, kl, rfl, -, hn, hl⟩ := hf
  have hb1 := (Below.refl w.heap.size w).alloc (Nat.le_refl _) (.cells #[.bool p.ssa, v1, v2, v3, (.slice pl p.fs.length kl)] 27)
  have hb2 := hb1.alloc hb1.size (.cells #[.string ⟨#[]⟩, .string ⟨#[]⟩, .slice none 0 0, .slice none 0 0, .slice none 0 0] 30)
  have hP := (Box.alloc w [.bool p.ssa, v1, v2, v3, (.slice pl p.fs.length kl)] 27).al (.cells #[.string ⟨#[]⟩, .string ⟨#[]⟩, .slice none 0 0, .slice none 0 0, .slice none 0 0] 30)
  have hB := Box.alloc (w.alloc (.cells #[.bool p.ssa, v1, v2, v3, (.slice pl p.fs.length kl)] 27)) [(.string ⟨#[]⟩), (.string ⟨#[]⟩), (.slice none 0 0), (.slice none 0 0), (.slice none 0 0)] 30
  have hs : (w.alloc (.cells #[.bool p.ssa, v1, v2, v3, (.slice pl p.fs.length kl)] 27)).heap.size = w.heap.size + 1 := by simp
  rw [hs] at hB
  clear hb1 hs hc hg hx
  generalize hf : findB Fn.n x p.fs = r0
  go_enter Tryd.func25, Tryd.ntmps25
  go_wp2
  go_loopw [6] (fun i wr => ∃ q : Nat, q ≤ p.fs.length ∧ i = .int .i64 (q : Int) ∧ Below w.heap.size w wr ∧ Box wr w.heap.size [.bool p.ssa, v1, v2, v3, (.slice pl p.fs.length kl)] ∧ Box wr (w.heap.size + 1) [(.string ⟨#[]⟩), (.string ⟨#[]⟩), (.slice none 0 0), (.slice none 0 0), (.slice none 0 0)] ∧ findB Fn.n x (p.fs.drop q) = r0) (fun i _ => p.fs.length - (intOf i).toNat)
  case atStart => exact ⟨0, Nat.zero_le _, rfl, hb2, hP, hB, hf⟩
  case round =>
    clear hb2 hP hB hf
    obtain ⟨q, hq, rfl, hb, hP, hB, hf⟩ := hrel
    have p1 := hP.c 4 _ rfl
    have hw1 : w.heap.size ≤ w.heap.size + 1 := Nat.le_succ _
    have hlt2 := hB.lt
    have d0 := hB.c 0 _ rfl
    have g0 := hB.f 0 (by simp)
    have d1 := hB.c 1 _ rfl
    have g1 := hB.f 1 (by simp)
    have d2 := hB.c 2 _ rfl
    have g2 := hB.f 2 (by simp)
    have d3 := hB.c 3 _ rfl
    have g3 := hB.f 3 (by simp)
    have d4 := hB.c 4 _ rfl
    have g4 := hB.f 4 (by simp)
    by_cases hend : q = p.fs.length
    · subst hend
      rw [List.drop_length] at hf
      subst hf
      have hb6 := hb
      have hb6 := hb6.setCell (p := ⟨w.heap.size + 1, 0, none⟩) hw1 (.string ⟨#[]⟩)
      have hb6 := hb6.setCell (p := ⟨w.heap.size + 1, 1, none⟩) hw1 (.string ⟨#[]⟩)
      have hb6 := hb6.setCell (p := ⟨w.heap.size + 1, 2, none⟩) hw1 (.slice none 0 0)
      have hb6 := hb6.setCell (p := ⟨w.heap.size + 1, 3, none⟩) hw1 (.slice none 0 0)
      have hb6 := hb6.setCell (p := ⟨w.heap.size + 1, 4, none⟩) hw1 (.slice none 0 0)
      clear hl hP hB hb
      go_wp2
      ((try simp only [Exit.inBlock, Exit.then]); refine bodyPost_ret_by (v := (.tuple #[.agg #[.string ⟨#[]⟩, .string ⟨#[]⟩, .slice none 0 0, .slice none 0 0, .slice none 0 0], .bool false])) ((results_cell_tmp rfl _ _ _).trans (by go_simp; try rfl)) rfl ?_)
      exact ⟨hb6, rfl⟩
    · have hlt : q < p.fs.length := by omega
      have hltI : (q : Int) < (p.fs.length : Int) := by omega
      rw [List.drop_eq_getElem_cons hlt, findB] at hf
      obtain ⟨a, rfl, hA⟩ := hl q p.fs[q] (by simp [hlt])
      clear hl
      generalize p.fs[q] = y at *
      obtain ⟨⟨c0, z0⟩, ⟨c1, z1⟩, ⟨u1, c2, r1⟩, ⟨u2, c3, r2⟩, u3, c4, r3⟩ := hA
      have hb0 := bthen' h0 hb
      have c0 := keepc hb0 c0
      have c1 := keepc hb0 c1
      have c2 := keepc hb0 c2
      have c3 := keepc hb0 c3
      have c4 := keepc hb0 c4
      obtain ⟨p1', k1, rfl⟩ := r1.slice
      obtain ⟨p2', k2, rfl⟩ := r2.slice
      obtain ⟨p3', k3, rfl⟩ := r3.slice
      by_cases hy : y.n = x
      · have he := seq_t hy
        rw [if_pos hy] at hf
        subst hf
        have hb6 := hb
        have hb6 := hb6.setCell (p := ⟨w.heap.size + 1, 0, none⟩) hw1 (.string y.n)
        have hb6 := hb6.setCell (p := ⟨w.heap.size + 1, 1, none⟩) hw1 (.string y.r)
        have hb6 := hb6.setCell (p := ⟨w.heap.size + 1, 2, none⟩) hw1 (.slice p1' y.ps.length k1)
        have hb6 := hb6.setCell (p := ⟨w.heap.size + 1, 3, none⟩) hw1 (.slice p2' y.vs.length k2)
        have hb6 := hb6.setCell (p := ⟨w.heap.size + 1, 4, none⟩) hw1 (.slice p3' y.bs.length k3)
        clear hy hP hB hb hend hq hlt
        go_wp2
        ((try simp only [Exit.inBlock, Exit.then]); refine bodyPost_ret_by (v := (.tuple #[.agg #[.string y.n, .string y.r, .slice p1' y.ps.length k1, .slice p2' y.vs.length k2, .slice p3' y.bs.length k3], .bool true])) ((results_cell_tmp rfl _ _ _).trans (by go_simp; try rfl)) rfl ?_)
        exact ⟨hb6, _, _, _, _, rfl, ⟨rfl, ⟨z0, z1⟩, r1, r2, r3⟩⟩
      · have he := seq_f hy
        rw [if_neg hy] at hf
        go_wp2
        go_roundw
        case rel => exact ⟨q + 1, by omega, by go_num, hb, hP, hB, hf⟩
        case measure => simp [intOf]; omega
set_option maxHeartbeats 4000000 in
theorem rlookX_val {w0 w : World} (h0 : Below w0.heap.size w0 w) {p : Pg} {v v1 v2 v3 v4 : Value} (hp : ValP w0 v p v1 v2 v3 v4) (x : ByteArray) :
    Calls Tryd.prog 26 #[v, .string x] w fun e w' => Below w.heap.size w w' ∧ OutX w0 (findB Ex.n x p.xs) e := by
  obtain ⟨rfl, hc, hg, hx, hf⟩ := hp
  obtain ⟨pl, kl, rfl, -, hn, hl⟩ := hx
  have hb1 := (Below.refl w.heap.size w).alloc (Nat.le_refl _) (.cells #[.bool p.ssa, v1, v2, (.slice pl p.xs.length kl), v4] 27)
  have hb2 := hb1.alloc hb1.size (.cells #[.string ⟨#[]⟩, .int .i64 0] 77)
  have hP := (Box.alloc w [.bool p.ssa, v1, v2, (.slice pl p.xs.length kl), v4] 27).al (.cells #[.string ⟨#[]⟩, .int .i64 0] 77)
  have hB := Box.alloc (w.alloc (.cells #[.bool p.ssa, v1, v2, (.slice pl p.xs.length kl), v4] 27)) [(.string ⟨#[]⟩), (.int .i64 0)] 77
  have hs : (w.alloc (.cells #[.bool p.ssa, v1, v2, (.slice pl p.xs.length kl), v4] 27)).heap.size = w.heap.size + 1 := by simp
  rw [hs] at hB
  clear hb1 hs hc hg hf
  generalize hf : findB Ex.n x p.xs = r0
  go_enter Tryd.func26, Tryd.ntmps26
  go_wp2
  go_loopw [6] (fun i wr => ∃ q : Nat, q ≤ p.xs.length ∧ i = .int .i64 (q : Int) ∧ Below w.heap.size w wr ∧ Box wr w.heap.size [.bool p.ssa, v1, v2, (.slice pl p.xs.length kl), v4] ∧ Box wr (w.heap.size + 1) [(.string ⟨#[]⟩), (.int .i64 0)] ∧ findB Ex.n x (p.xs.drop q) = r0) (fun i _ => p.xs.length - (intOf i).toNat)
  case atStart => exact ⟨0, Nat.zero_le _, rfl, hb2, hP, hB, hf⟩
  case round =>
    clear hb2 hP hB hf
    obtain ⟨q, hq, rfl, hb, hP, hB, hf⟩ := hrel
    have p1 := hP.c 3 _ rfl
    have hw1 : w.heap.size ≤ w.heap.size + 1 := Nat.le_succ _
    have hlt2 := hB.lt
    have d0 := hB.c 0 _ rfl
    have g0 := hB.f 0 (by simp)
    have d1 := hB.c 1 _ rfl
    have g1 := hB.f 1 (by simp)
    by_cases hend : q = p.xs.length
    · subst hend
      rw [List.drop_length] at hf
      subst hf
      have hb6 := hb
      have hb6 := hb6.setCell (p := ⟨w.heap.size + 1, 0, none⟩) hw1 (.string ⟨#[]⟩)
      have hb6 := hb6.setCell (p := ⟨w.heap.size + 1, 1, none⟩) hw1 (.int .i64 0)
      clear hl hP hB hb
      go_wp2
      ((try simp only [Exit.inBlock, Exit.then]); refine bodyPost_ret_by (v := (.tuple #[.agg #[.string ⟨#[]⟩, .int .i64 0], .bool false])) ((results_cell_tmp rfl _ _ _).trans (by go_simp; try rfl)) rfl ?_)
      exact ⟨hb6, rfl⟩
    · have hlt : q < p.xs.length := by omega
      have hltI : (q : Int) < (p.xs.length : Int) := by omega
      rw [List.drop_eq_getElem_cons hlt, findB] at hf
      obtain ⟨a, rfl, hA⟩ := hl q p.xs[q] (by simp [hlt])
      clear hl
      generalize p.xs[q] = y at *
      obtain ⟨⟨c0, z0⟩, c1⟩ := hA
      have hb0 := bthen' h0 hb
      have c0 := keepc hb0 c0
      have c1 := keepc hb0 c1
      by_cases hy : y.n = x
      · have he := seq_t hy
        rw [if_pos hy] at hf
        subst hf
        have hb6 := hb
        have hb6 := hb6.setCell (p := ⟨w.heap.size + 1, 0, none⟩) hw1 (.string y.n)
        have hb6 := hb6.setCell (p := ⟨w.heap.size + 1, 1, none⟩) hw1 (.int .i64 y.k)
        clear hy hP hB hb hend hq hlt
        go_wp2
        ((try simp only [Exit.inBlock, Exit.then]); refine bodyPost_ret_by (v := (.tuple #[.agg #[.string y.n, .int .i64 y.k], .bool true])) ((results_cell_tmp rfl _ _ _).trans (by go_simp; try rfl)) rfl ?_)
        exact ⟨hb6, rfl, z0⟩
      · have he := seq_f hy
        rw [if_neg hy] at hf
        go_wp2
        go_roundw
        case rel => exact ⟨q + 1, by omega, by go_num, hb, hP, hB, hf⟩
        case measure => simp [intOf]; omega
end Go.Proofs.YtjohjpjpfglkkaaDoor
