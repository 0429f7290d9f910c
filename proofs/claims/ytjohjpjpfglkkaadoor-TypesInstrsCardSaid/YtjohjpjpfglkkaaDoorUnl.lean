/- Whether names are unlike: the program's check, at its four types. -/
import Derived.Test.YtjohjpjpfglkkaaDoorFind
import Derived.Test.YtjohjpjpfglkkaaDoorSet
import Derived.Carry
namespace Go.Proofs.YtjohjpjpfglkkaaDoor
open Go.RowKit

/-- with these seen before, are these unlike? -/
def unl (T : List ByteArray) : List ByteArray → Bool
  | [] => true
  | s :: r => if isIn T s then false else unl (T ++ [s]) r
theorem isIn_iff {T : List ByteArray} {s : ByteArray} : isIn T s = true ↔ s ∈ T := by
  constructor
  · intro h
    by_cases hs : s ∈ T
    · exact hs
    · rw [isIn_f hs] at h; cases h
  · exact isIn_t
theorem unl_iff : ∀ (l T : List ByteArray), unl T l = true ↔ (∀ s ∈ l, s ∉ T) ∧ l.Nodup
  | [], T => by simp [unl]
  | s :: r, T => by
    unfold unl
    have ih := unl_iff r (T ++ [s])
    by_cases h : s ∈ T
    · rw [if_pos (isIn_t h)]
      simp [h]
    · rw [if_neg (by rw [isIn_f h]; simp), ih]
      simp only [List.mem_append, not_or, List.mem_cons, List.not_mem_nil, or_false, List.nodup_cons]
      constructor
      · rintro ⟨h1, h2⟩
        exact ⟨fun x hx => by rcases hx with rfl | hx; · exact h
                              · exact (h1 x hx).1, fun hs => (h1 s hs).2 rfl, h2⟩
      · rintro ⟨h1, h2, h3⟩
        exact ⟨fun x hx => ⟨h1 x (.inr hx), fun e => h2 (e ▸ hx)⟩, h3⟩
theorem zeroB (u : World) : (zeroValue 4).run Tryd.prog u = .ok (.bool false) u := by
  have v4 := Tryd.zeroValue4
  simp

set_option maxHeartbeats 4000000 in
theorem unlC_val {w0 w : World} (h0 : Below w0.heap.size w0 w) {l : List Cl} {v : Value} (hl : Row AtC 2 w0 v l) :
    Calls Tryd.prog 27 #[v, .func (Fn.func 28) #[] #[]] w fun e w' => e = .returned (.bool (unl [] (l.map Cl.n))) ∧ Below w.heap.size w w' := by
  obtain ⟨p, cu, rfl, -, hn, hl⟩ := hl
  generalize hf : unl [] (l.map Cl.n) = r0
  have hmm := @run_makeMap Tryd.prog
  go_enter Tryd.func27, Tryd.ntmps27
  go_wp2
  clear hmm
  go_loopw [11] (fun i wr => ∃ q : Nat, ∃ S : List ByteArray, q ≤ l.length ∧ i = .int .i64 (q : Int) ∧ Below w.heap.size w wr ∧ SetIs wr w.heap.size S ∧ unl S ((l.drop q).map Cl.n) = r0) (fun i _ => l.length - (intOf i).toNat)
  case atStart => exact ⟨0, [], Nat.zero_le _, rfl, (Below.refl _ _).alloc (Nat.le_refl _) _, SetIs.made, hf⟩
  case round =>
    obtain ⟨q, S, hq, rfl, hb, hS, hf⟩ := hrel
    by_cases hend : q = l.length
    · subst hend
      rw [List.drop_length] at hf
      have hf : true = r0 := hf
      subst hf
      clear hl hS
      go_wp2
      go_ret
      exact ⟨rfl, hb⟩
    · have hlt : q < l.length := by omega
      have hltI : (q : Int) < (l.length : Int) := by omega
      rw [List.drop_eq_getElem_cons hlt, List.map_cons, unl] at hf
      obtain ⟨a, rfl, hA⟩ := hl q l[q] (by simp [hlt])
      clear hl
      generalize l[q] = y at *
      obtain ⟨⟨c0, z0⟩, u1, c1, r1⟩ := hA
      have hb0 := bthen' h0 hb
      have c0 := keepc hb0 c0
      have c1 := keepc hb0 c1
      obtain ⟨p1, k1, rfl⟩ := r1.slice
      go_wp2_with fail
      refine (nameC_val _ _ _).mono ?_
      rintro e w2 ⟨rfl, hb2⟩
      have hA2 := (Box.alloc wr [(.string y.n), (.slice p1 y.fs.length k1)] 67).nx hb2
      have hb3 := (hb.alloc hb.size (.cells #[.string y.n, .slice p1 y.fs.length k1] 67)).trans (hb2.mono (hb.alloc hb.size _).size)
      have hS2 := (hS.nx ((Below.refl wr.heap.size wr).alloc (Nat.le_refl _) (.cells #[.string y.n, .slice p1 y.fs.length k1] 67))).nx hb2
      have hlk := run_isin (P := Tryd.prog) (w := w2) Tryd.underlying101 Tryd.underlying9 zeroB hS2 y.n
      clear hb hb2 hS c0 c1
      have d0 := hA2.c 0 _ rfl
      have d1 := hA2.c 1 _ rfl
      by_cases hy : y.n ∈ S
      · rw [isIn_t hy] at hf hlk
        have hf : false = r0 := hf
        subst hf
        clear hS2 hA2
        go_wp2_with fail
        go_ret
        exact ⟨rfl, hb3⟩
      · rw [isIn_f hy] at hf hlk
        have hf : unl (S ++ [y.n]) ((l.drop (q + 1)).map Cl.n) = r0 := hf
        have hl2 := hA2.lt
        go_wp2_with fail
        refine (nameC_val _ _ _).mono ?_
        rintro e w4 ⟨rfl, hb4⟩
        have hb5 := hb3.trans (hb4.mono hb3.size)
        have hS4 := hS2.nx hb4
        obtain ⟨o, hrun, hS5⟩ := run_putin (P := Tryd.prog) (w := w4) Tryd.underlying101 Tryd.underlying9 hS4 hy
        have hb6 := Below.put hb5 (Nat.le_refl _) hb5.size o
        clear hb3 hb4 hb5 hS2 hS4 hA2 hlk d0 d1
        go_wp2_with fail
        go_roundw
        case rel => exact ⟨q + 1, _, by omega, by go_num, hb6, hS5, hf⟩
        case measure => simp [intOf]; omega
set_option maxHeartbeats 4000000 in
theorem unlV_val {w0 w : World} (h0 : Below w0.heap.size w0 w) {l : List Vr} {v : Value} (hl : Row AtV 2 w0 v l) :
    Calls Tryd.prog 51 #[v, .func (Fn.func 52) #[] #[]] w fun e w' => e = .returned (.bool (unl [] (l.map Vr.n))) ∧ Below w.heap.size w w' := by
  obtain ⟨p, cu, rfl, -, hn, hl⟩ := hl
  generalize hf : unl [] (l.map Vr.n) = r0
  have hmm := @run_makeMap Tryd.prog
  go_enter Tryd.func51, Tryd.ntmps51
  go_wp2
  clear hmm
  go_loopw [11] (fun i wr => ∃ q : Nat, ∃ S : List ByteArray, q ≤ l.length ∧ i = .int .i64 (q : Int) ∧ Below w.heap.size w wr ∧ SetIs wr w.heap.size S ∧ unl S ((l.drop q).map Vr.n) = r0) (fun i _ => l.length - (intOf i).toNat)
  case atStart => exact ⟨0, [], Nat.zero_le _, rfl, (Below.refl _ _).alloc (Nat.le_refl _) _, SetIs.made, hf⟩
  case round =>
    obtain ⟨q, S, hq, rfl, hb, hS, hf⟩ := hrel
    by_cases hend : q = l.length
    · subst hend
      rw [List.drop_length] at hf
      have hf : true = r0 := hf
      subst hf
      clear hl hS
      go_wp2
      go_ret
      exact ⟨rfl, hb⟩
    · have hlt : q < l.length := by omega
      have hltI : (q : Int) < (l.length : Int) := by omega
      rw [List.drop_eq_getElem_cons hlt, List.map_cons, unl] at hf
      obtain ⟨a, rfl, hA⟩ := hl q l[q] (by simp [hlt])
      clear hl
      generalize l[q] = y at *
      obtain ⟨⟨c0, z0⟩, c1, z1⟩ := hA
      have hb0 := bthen' h0 hb
      have c0 := keepc hb0 c0
      have c1 := keepc hb0 c1
      go_wp2_with fail
      refine (nameV_val _ _ _).mono ?_
      rintro e w2 ⟨rfl, hb2⟩
      have hA2 := (Box.alloc wr [(.string y.n), (.string y.t)] 60).nx hb2
      have hb3 := (hb.alloc hb.size (.cells #[.string y.n, .string y.t] 60)).trans (hb2.mono (hb.alloc hb.size _).size)
      have hS2 := (hS.nx ((Below.refl wr.heap.size wr).alloc (Nat.le_refl _) (.cells #[.string y.n, .string y.t] 60))).nx hb2
      have hlk := run_isin (P := Tryd.prog) (w := w2) Tryd.underlying101 Tryd.underlying9 zeroB hS2 y.n
      clear hb hb2 hS c0 c1
      have d0 := hA2.c 0 _ rfl
      have d1 := hA2.c 1 _ rfl
      by_cases hy : y.n ∈ S
      · rw [isIn_t hy] at hf hlk
        have hf : false = r0 := hf
        subst hf
        clear hS2 hA2
        go_wp2_with fail
        go_ret
        exact ⟨rfl, hb3⟩
      · rw [isIn_f hy] at hf hlk
        have hf : unl (S ++ [y.n]) ((l.drop (q + 1)).map Vr.n) = r0 := hf
        have hl2 := hA2.lt
        go_wp2_with fail
        refine (nameV_val _ _ _).mono ?_
        rintro e w4 ⟨rfl, hb4⟩
        have hb5 := hb3.trans (hb4.mono hb3.size)
        have hS4 := hS2.nx hb4
        obtain ⟨o, hrun, hS5⟩ := run_putin (P := Tryd.prog) (w := w4) Tryd.underlying101 Tryd.underlying9 hS4 hy
        have hb6 := Below.put hb5 (Nat.le_refl _) hb5.size o
        clear hb3 hb4 hb5 hS2 hS4 hA2 hlk d0 d1
        go_wp2_with fail
        go_roundw
        case rel => exact ⟨q + 1, _, by omega, by go_num, hb6, hS5, hf⟩
        case measure => simp [intOf]; omega
set_option maxHeartbeats 4000000 in
theorem unlF_val {w0 w : World} (h0 : Below w0.heap.size w0 w) {l : List Fn} {v : Value} (hl : Row AtF 5 w0 v l) :
    Calls Tryd.prog 31 #[v, .func (Fn.func 32) #[] #[]] w fun e w' => e = .returned (.bool (unl [] (l.map Fn.n))) ∧ Below w.heap.size w w' := by
  obtain ⟨p, cu, rfl, -, hn, hl⟩ := hl
  generalize hf : unl [] (l.map Fn.n) = r0
  have hmm := @run_makeMap Tryd.prog
  go_enter Tryd.func31, Tryd.ntmps31
  go_wp2
  clear hmm
  go_loopw [11] (fun i wr => ∃ q : Nat, ∃ S : List ByteArray, q ≤ l.length ∧ i = .int .i64 (q : Int) ∧ Below w.heap.size w wr ∧ SetIs wr w.heap.size S ∧ unl S ((l.drop q).map Fn.n) = r0) (fun i _ => l.length - (intOf i).toNat)
  case atStart => exact ⟨0, [], Nat.zero_le _, rfl, (Below.refl _ _).alloc (Nat.le_refl _) _, SetIs.made, hf⟩
  case round =>
    obtain ⟨q, S, hq, rfl, hb, hS, hf⟩ := hrel
    by_cases hend : q = l.length
    · subst hend
      rw [List.drop_length] at hf
      have hf : true = r0 := hf
      subst hf
      clear hl hS
      go_wp2
      go_ret
      exact ⟨rfl, hb⟩
    · have hlt : q < l.length := by omega
      have hltI : (q : Int) < (l.length : Int) := by omega
      rw [List.drop_eq_getElem_cons hlt, List.map_cons, unl] at hf
      obtain ⟨a, rfl, hA⟩ := hl q l[q] (by simp [hlt])
      clear hl
      generalize l[q] = y at *
      obtain ⟨⟨c0, z0⟩, ⟨c1, z1⟩, ⟨u1, c2, r1⟩, ⟨u2, c3, r2⟩, u3, c4, r3⟩ := hA
      have hb0 := bthen' h0 hb
      have c0 := keepc hb0 c0
      have c1 := keepc hb0 c1
      have c2 := keepc hb0 c2
      have c3 := keepc hb0 c3
      have c4 := keepc hb0 c4
      obtain ⟨p1, k1, rfl⟩ := r1.slice
      obtain ⟨p2, k2, rfl⟩ := r2.slice
      obtain ⟨p3, k3, rfl⟩ := r3.slice
      go_wp2_with fail
      refine (nameF_val _ _ _ _ _ _).mono ?_
      rintro e w2 ⟨rfl, hb2⟩
      have hA2 := (Box.alloc wr [(.string y.n), (.string y.r), (.slice p1 y.ps.length k1), (.slice p2 y.vs.length k2), (.slice p3 y.bs.length k3)] 30).nx hb2
      have hb3 := (hb.alloc hb.size (.cells #[.string y.n, .string y.r, .slice p1 y.ps.length k1, .slice p2 y.vs.length k2, .slice p3 y.bs.length k3] 30)).trans (hb2.mono (hb.alloc hb.size _).size)
      have hS2 := (hS.nx ((Below.refl wr.heap.size wr).alloc (Nat.le_refl _) (.cells #[.string y.n, .string y.r, .slice p1 y.ps.length k1, .slice p2 y.vs.length k2, .slice p3 y.bs.length k3] 30))).nx hb2
      have hlk := run_isin (P := Tryd.prog) (w := w2) Tryd.underlying101 Tryd.underlying9 zeroB hS2 y.n
      clear hb hb2 hS c0 c1 c2 c3 c4
      have d0 := hA2.c 0 _ rfl
      have d1 := hA2.c 1 _ rfl
      have d2 := hA2.c 2 _ rfl
      have d3 := hA2.c 3 _ rfl
      have d4 := hA2.c 4 _ rfl
      by_cases hy : y.n ∈ S
      · rw [isIn_t hy] at hf hlk
        have hf : false = r0 := hf
        subst hf
        clear hS2 hA2
        go_wp2_with fail
        go_ret
        exact ⟨rfl, hb3⟩
      · rw [isIn_f hy] at hf hlk
        have hf : unl (S ++ [y.n]) ((l.drop (q + 1)).map Fn.n) = r0 := hf
        have hl2 := hA2.lt
        go_wp2_with fail
        refine (nameF_val _ _ _ _ _ _).mono ?_
        rintro e w4 ⟨rfl, hb4⟩
        have hb5 := hb3.trans (hb4.mono hb3.size)
        have hS4 := hS2.nx hb4
        obtain ⟨o, hrun, hS5⟩ := run_putin (P := Tryd.prog) (w := w4) Tryd.underlying101 Tryd.underlying9 hS4 hy
        have hb6 := Below.put hb5 (Nat.le_refl _) hb5.size o
        clear hb3 hb4 hb5 hS2 hS4 hA2 hlk d0 d1 d2 d3 d4
        go_wp2_with fail
        go_roundw
        case rel => exact ⟨q + 1, _, by omega, by go_num, hb6, hS5, hf⟩
        case measure => simp [intOf]; omega
set_option maxHeartbeats 4000000 in
theorem unlX_val {w0 w : World} (h0 : Below w0.heap.size w0 w) {l : List Ex} {v : Value} (hl : Row AtX 2 w0 v l) :
    Calls Tryd.prog 29 #[v, .func (Fn.func 30) #[] #[]] w fun e w' => e = .returned (.bool (unl [] (l.map Ex.n))) ∧ Below w.heap.size w w' := by
  obtain ⟨p, cu, rfl, -, hn, hl⟩ := hl
  generalize hf : unl [] (l.map Ex.n) = r0
  have hmm := @run_makeMap Tryd.prog
  go_enter Tryd.func29, Tryd.ntmps29
  go_wp2
  clear hmm
  go_loopw [11] (fun i wr => ∃ q : Nat, ∃ S : List ByteArray, q ≤ l.length ∧ i = .int .i64 (q : Int) ∧ Below w.heap.size w wr ∧ SetIs wr w.heap.size S ∧ unl S ((l.drop q).map Ex.n) = r0) (fun i _ => l.length - (intOf i).toNat)
  case atStart => exact ⟨0, [], Nat.zero_le _, rfl, (Below.refl _ _).alloc (Nat.le_refl _) _, SetIs.made, hf⟩
  case round =>
    obtain ⟨q, S, hq, rfl, hb, hS, hf⟩ := hrel
    by_cases hend : q = l.length
    · subst hend
      rw [List.drop_length] at hf
      have hf : true = r0 := hf
      subst hf
      clear hl hS
      go_wp2
      go_ret
      exact ⟨rfl, hb⟩
    · have hlt : q < l.length := by omega
      have hltI : (q : Int) < (l.length : Int) := by omega
      rw [List.drop_eq_getElem_cons hlt, List.map_cons, unl] at hf
      obtain ⟨a, rfl, hA⟩ := hl q l[q] (by simp [hlt])
      clear hl
      generalize l[q] = y at *
      obtain ⟨⟨c0, z0⟩, c1⟩ := hA
      have hb0 := bthen' h0 hb
      have c0 := keepc hb0 c0
      have c1 := keepc hb0 c1
      go_wp2_with fail
      refine (nameX_val _ _ _).mono ?_
      rintro e w2 ⟨rfl, hb2⟩
      have hA2 := (Box.alloc wr [(.string y.n), (.int .i64 y.k)] 77).nx hb2
      have hb3 := (hb.alloc hb.size (.cells #[.string y.n, .int .i64 y.k] 77)).trans (hb2.mono (hb.alloc hb.size _).size)
      have hS2 := (hS.nx ((Below.refl wr.heap.size wr).alloc (Nat.le_refl _) (.cells #[.string y.n, .int .i64 y.k] 77))).nx hb2
      have hlk := run_isin (P := Tryd.prog) (w := w2) Tryd.underlying101 Tryd.underlying9 zeroB hS2 y.n
      clear hb hb2 hS c0 c1
      have d0 := hA2.c 0 _ rfl
      have d1 := hA2.c 1 _ rfl
      by_cases hy : y.n ∈ S
      · rw [isIn_t hy] at hf hlk
        have hf : false = r0 := hf
        subst hf
        clear hS2 hA2
        go_wp2_with fail
        go_ret
        exact ⟨rfl, hb3⟩
      · rw [isIn_f hy] at hf hlk
        have hf : unl (S ++ [y.n]) ((l.drop (q + 1)).map Ex.n) = r0 := hf
        have hl2 := hA2.lt
        go_wp2_with fail
        refine (nameX_val _ _ _).mono ?_
        rintro e w4 ⟨rfl, hb4⟩
        have hb5 := hb3.trans (hb4.mono hb3.size)
        have hS4 := hS2.nx hb4
        obtain ⟨o, hrun, hS5⟩ := run_putin (P := Tryd.prog) (w := w4) Tryd.underlying101 Tryd.underlying9 hS4 hy
        have hb6 := Below.put hb5 (Nat.le_refl _) hb5.size o
        clear hb3 hb4 hb5 hS2 hS4 hA2 hlk d0 d1
        go_wp2_with fail
        go_roundw
        case rel => exact ⟨q + 1, _, by omega, by go_num, hb6, hS5, hf⟩
        case measure => simp [intOf]; omega
end Go.Proofs.YtjohjpjpfglkkaaDoor
