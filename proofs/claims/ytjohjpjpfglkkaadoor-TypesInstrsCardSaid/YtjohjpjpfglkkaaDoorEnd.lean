/- Whether an end has its types. -/
import Derived.Test.YtjohjpjpfglkkaaDoorFld
namespace Go.Proofs.YtjohjpjpfglkkaaDoor
open Go.RowKit

def endR (r : Option ByteArray) (k : Int) (fr : ByteArray) (n : Int) : Bool :=
  if k = 1 then true else if k = 2 then decide (r = some intS) else if k = 3 then (match r with | some t => fitsB t fr | none => false) else if k = 4 then decide (10 ≤ n) else false
def endB (f : Fn) (k : Int) (a : Ag) (n : Int) : Bool := endR (tyOf f a) k f.r n
set_option maxHeartbeats 8000000 in
theorem end_val {w0 w : World} (h0 : Below w0.heap.size w0 w) {f : Fn} {v u1 u2 u3 : Value} (hf : ValF w0 v f u1 u2 u3) (k : Int) (a : Ag) (p4 : Option Addr) (l4 k4 : Nat) (n : Int) :
    Calls Tryd.prog 11 #[v, .agg #[.int .i64 k, .int .i64 a.k, .string a.s, .int .i64 a.n, .slice p4 l4 k4, .int .i64 n]] w fun e w' => e = .returned (.bool (endB f k a n)) ∧ Below w.heap.size w w' := by
  have hfv := hf
  obtain ⟨rfl, hz, hp, hv, hbk⟩ := hf
  obtain ⟨p1, k1, rfl⟩ := hp.slice
  obtain ⟨p2, k2, rfl⟩ := hv.slice
  obtain ⟨p3, k3, rfl⟩ := hbk.slice
  clear hbk hp hv hz
  have hb1 := (Below.refl w.heap.size w).alloc (Nat.le_refl _) (.cells #[.string f.n, .string f.r, .slice p1 f.ps.length k1, .slice p2 f.vs.length k2, .slice p3 f.bs.length k3] 30)
  have hb2 := hb1.alloc hb1.size (.cells #[.int .i64 k, .int .i64 a.k, .string a.s, .int .i64 a.n, .slice p4 l4 k4, .int .i64 n] 48)
  have hF := (Box.alloc w [.string f.n, .string f.r, .slice p1 f.ps.length k1, .slice p2 f.vs.length k2, .slice p3 f.bs.length k3] 30).al (.cells #[.int .i64 k, .int .i64 a.k, .string a.s, .int .i64 a.n, .slice p4 l4 k4, .int .i64 n] 48)
  have hT := Box.alloc (w.alloc (.cells #[.string f.n, .string f.r, .slice p1 f.ps.length k1, .slice p2 f.vs.length k2, .slice p3 f.bs.length k3] 30)) [.int .i64 k, .int .i64 a.k, .string a.s, .int .i64 a.n, .slice p4 l4 k4, .int .i64 n] 48
  have hs : (w.alloc (.cells #[.string f.n, .string f.r, .slice p1 f.ps.length k1, .slice p2 f.vs.length k2, .slice p3 f.bs.length k3] 30)).heap.size = w.heap.size + 1 := by simp
  rw [hs] at hT
  have hC := of_val (bthen' h0 hb2) hfv a
  clear hb1 hs hfv
  unfold endB
  generalize tyOf f a = r at *
  obtain ⟨R, hR⟩ : ∃ R : Bool, R = endR r k f.r n := ⟨_, rfl⟩
  rw [← hR]
  unfold endR at hR
  go_enter Tryd.func11, Tryd.ntmps11
  go_wp2_with fail
  refine hC.mono ?_
  rintro e w1 ⟨hb3, ho⟩
  have hb := bthen' hb2 hb3
  have a1 := (hF.nx hb3).c 1 _ rfl
  have b0 := (hT.nx hb3).c 0 _ rfl
  have b5 := (hT.nx hb3).c 5 _ rfl
  obtain ⟨t, ok, rfl, hok⟩ : ∃ (t : ByteArray) (ok : Bool), e = .returned (.tuple #[.string t, .bool ok]) ∧ ((ok = true ∧ r = some t) ∨ (ok = false ∧ r = none)) := by
    cases r with
    | none => exact ⟨_, _, ho, .inr ⟨rfl, rfl⟩⟩
    | some t => exact ⟨_, _, ho.1, .inl ⟨rfl, rfl⟩⟩
  clear ho hC hF hT hb2 hb3
  by_cases e1 : k = 1
  · subst e1
    rw [if_pos rfl] at hR
    subst hR
    clear hok
    go_wp2
    go_ret
    exact ⟨rfl, hb⟩
  rw [if_neg e1] at hR
  by_cases e2 : k = 2
  · subst e2
    rw [if_pos rfl] at hR
    rcases hok with ⟨rfl, rfl⟩ | ⟨rfl, rfl⟩
    · by_cases ht : t = intS
      · have g := lit_t (l := [105, 110, 116]) ht
        obtain rfl : R = true := by rw [hR, ht]; rfl
        clear ht hR e1
        go_wp2
        go_ret
        exact ⟨rfl, hb⟩
      · have g := lit_f (l := [105, 110, 116]) ht
        obtain rfl : R = false := by rw [hR]; exact decide_eq_false (fun h => ht (by injection h))
        clear ht hR e1
        go_wp2
        go_ret
        exact ⟨rfl, hb⟩
    · obtain rfl : R = false := by rw [hR]; rfl
      clear hR e1
      go_wp2
      go_ret
      exact ⟨rfl, hb⟩
  rw [if_neg e2] at hR
  by_cases e3 : k = 3
  · subst e3
    rw [if_pos rfl] at hR
    rcases hok with ⟨rfl, rfl⟩ | ⟨rfl, rfl⟩
    · have hD := fits_val t f.r w1
      dsimp only at hR
      rw [← hR] at hD
      clear hR e1 e2
      go_wp2_with fail
      refine hD.mono ?_
      rintro e w2 ⟨rfl, rfl⟩
      clear hD
      cases R
      · go_wp2
        go_ret
        exact ⟨rfl, hb⟩
      · go_wp2
        go_ret
        exact ⟨rfl, hb⟩
    · obtain rfl : R = false := hR
      clear e1 e2
      go_wp2
      go_ret
      exact ⟨rfl, hb⟩
  rw [if_neg e3] at hR
  clear hok
  by_cases e4 : k = 4
  · subst e4
    rw [if_pos rfl] at hR
    clear e1 e2 e3
    by_cases hn : 10 ≤ n
    · obtain rfl : R = true := by rw [hR]; exact decide_eq_true hn
      clear hR
      go_wp2
      go_ret
      exact ⟨rfl, hb⟩
    · obtain rfl : R = false := by rw [hR]; exact decide_eq_false hn
      have hn2 : decide (10 ≤ n) = false := decide_eq_false hn
      clear hR hn
      go_wp2
      go_ret
      exact ⟨rfl, hb⟩
  rw [if_neg e4] at hR
  subst hR
  have f1 : (k == 1) = false := by simpa using e1
  have f2 : (k == 2) = false := by simpa using e2
  have f3 : (k == 3) = false := by simpa using e3
  have f4 : (k == 4) = false := by simpa using e4
  clear e1 e2 e3 e4
  go_wp2
  go_ret
  exact ⟨rfl, hb⟩
end Go.Proofs.YtjohjpjpfglkkaaDoor
