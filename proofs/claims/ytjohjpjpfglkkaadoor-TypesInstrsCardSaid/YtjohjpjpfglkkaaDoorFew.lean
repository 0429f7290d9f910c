/- few: has a program few parts. -/
import Derived.Test.YtjohjpjpfglkkaaDoorAwc
import Derived.Test.YtjohjpjpfglkkaaDoorCnp
namespace Go.Proofs.YtjohjpjpfglkkaaDoor
open Go.RowKit

theorem FewP.vfew {p : Pg} (h : FewP p) : Vfew p := fun f hf => ⟨Nat.le_trans (h.v f hf).1 (by decide), Nat.le_trans (h.v f hf).2 (by decide)⟩
def FewAll (p : Pg) (f : Fn) (e : Ending) : Prop := ∃ b : Bool, e = .returned (.bool b) ∧ (b = true → FewP p ∧ f.ps.length ≤ 20000 ∧ f.vs.length ≤ 20000)
set_option maxHeartbeats 8000000 in
theorem few_val {w0 w : World} (h0 : Below w0.heap.size w0 w) {p : Pg} {vp u1 u2 u3 u4 : Value} (hp : ValP w0 vp p u1 u2 u3 u4) {f : Fn} {vf g1 g2 g3 : Value} (hf : ValF w0 vf f g1 g2 g3) :
    Calls Tryd.prog 5 #[vp, vf] w fun e w' => Below w.heap.size w w' ∧ FewAll p f e := by
  have hpv := hp
  have hfv := hf
  obtain ⟨rfl, -, -, -, -⟩ := hp
  obtain ⟨rfl, -, -, -, -⟩ := hf
  have hb1 := (Below.refl w.heap.size w).alloc (Nat.le_refl _) (.cells #[.bool p.ssa, u1, u2, u3, u4] 27)
  have hb2 := hb1.alloc hb1.size (.cells #[.string f.n, .string f.r, g1, g2, g3] 30)
  have hA := fewP_val (bthen' h0 hb2) hpv
  have hF := (Box.alloc (w.alloc (.cells #[.bool p.ssa, u1, u2, u3, u4] 27)) [.string f.n, .string f.r, g1, g2, g3] 30)
  have z1 : (w.alloc (.cells #[.bool p.ssa, u1, u2, u3, u4] 27)).heap.size = w.heap.size + 1 := by simp
  rw [z1] at hF
  clear hb1 z1 hpv
  go_enter Tryd.func5, Tryd.ntmps5
  go_wp2_with fail
  refine hA.mono ?_
  rintro e w1 ⟨hb3, b, rfl, hb⟩
  have hb4 := bthen' hb2 hb3
  have c0 := (hF.nx hb3).c 0 _ rfl
  have c1 := (hF.nx hb3).c 1 _ rfl
  have c2 := (hF.nx hb3).c 2 _ rfl
  have c3 := (hF.nx hb3).c 3 _ rfl
  have c4 := (hF.nx hb3).c 4 _ rfl
  have hG := fewFunc_val (bthen' h0 hb4) hfv
  clear hA hb2 hb3 hF hfv
  cases b
  · clear hG hb
    go_wp2_with fail
    go_ret
    exact ⟨hb4, false, rfl, fun e => by cases e⟩
  · have hbx := Lib.hid (hb rfl)
    clear hb
    go_wp2_with fail
    refine hG.mono ?_
    rintro e w2 ⟨hb5, n, rfl, -, hn⟩
    have hb6 := bthen' hb4 hb5
    clear hG hb4 hb5 c0 c1 c2 c3 c4
    by_cases hle : n ≤ 20000
    · have hn := Lib.hid (hn hle)
      have g : decide (n ≤ 20000) = true := decide_eq_true hle
      clear hle
      go_wp2_with fail
      go_ret
      exact ⟨hb6, true, rfl, fun _ => ⟨hbx.out, hn.out⟩⟩
    · have g : decide (n ≤ 20000) = false := decide_eq_false hle
      clear hle hn
      go_wp2_with fail
      go_ret
      exact ⟨hb6, false, rfl, fun e => by cases e⟩
def cN : Option Cl → ByteArray
  | some c => c.n
  | none => ⟨#[]⟩
def cL : Option Cl → Nat
  | some c => c.fs.length
  | none => 0
theorem OutC.form {w : World} {r : Option Cl} {e : Ending} (h : OutC w r e) : ∃ q c, e = .returned (.tuple #[.agg #[.string (cN r), .slice q (cL r) c], .bool r.isSome]) := by
  cases r with
  | none => exact ⟨none, 0, h⟩
  | some c =>
    obtain ⟨v, u, rfl, hv⟩ := h
    obtain ⟨q, k, rfl⟩ := hv.f.slice
    exact ⟨q, k, by rw [hv.e]; rfl⟩
end Go.Proofs.YtjohjpjpfglkkaaDoor
