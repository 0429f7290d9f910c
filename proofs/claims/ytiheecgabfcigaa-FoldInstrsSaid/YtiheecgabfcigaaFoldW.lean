/- FoldInstrs: the walk. -/
import Derived.Test.YtiheecgabfcigaaFoldX
import Derived.Test.YtiheecgabfcigaaOpen
import Derived.Test.YtiheecgabfcigaaLift
namespace Go.Proofs.Ytiheecgabfcigaa
open Go.RowKit Num Flo Word
theorem right_succ {el : Nat → Int × ByteArray × Int} {q : Nat} (hm : ∀ m, m < q → Hid (rightV (el m).1 (el m).2.1.data.toList (el m).2.2 = true)) (h : Hid (rightV (el q).1 (el q).2.1.data.toList (el q).2.2 = true)) : ∀ m, m < q + 1 → Hid (rightV (el m).1 (el m).2.1.data.toList (el m).2.2 = true) := fun m hmq => by
  by_cases e : m = q
  · subst e; exact h
  · exact hm m (by omega)

set_option maxHeartbeats 4000000 in
theorem foldInstrs_walk (op : Int) (d nm : ByteArray) (pa pf po : Option Addr) (l cap lf kf lo ko : Nat) (el : Nat → Int × ByteArray × Int) (hl : l ≤ 9223372036854775807) (w : World) (hA : ArgsIn w pa l el) :
    Calls Try.prog 3 #[.agg #[.int .i64 op, .string d, .string nm, .slice pa l cap, .slice pf lf kf, .slice po lo ko]] w fun e w' => e = .returned (.bool true) ∧ Below w.heap.size w w' := by
  by_cases h100 : 100 < l
  · go_enter Try.func3, Try.ntmps3
    go_wp2_with fail
    refine (awake_true _).mono ?_
    rintro e w1 ⟨rfl, hb1⟩
    obtain ⟨-, hB⟩ := boxes1 hb1
    go_wp2
    go_ret
    exact ⟨rfl, hB⟩
  · have hl100 : l ≤ 100 := by omega
    clear h100 hl
    have H1 : ∀ w1, Below w.heap.size w w1 → ArgsIn w1 pa l el := fun w1 hb => hA.below hb
    go_enter Try.func3, Try.ntmps3
    go_wp2
    go_loopw [3] (fun i wr => ∃ q : Nat, q ≤ l ∧ i = .int .i64 (q : Int) ∧ (∀ m, m < q → Hid (rightV (el m).1 (el m).2.1.data.toList (el m).2.2 = true)) ∧ Box wr w.heap.size [.int .i64 op, .string d, .string nm, .slice pa l cap, .slice pf lf kf, .slice po lo ko] ∧ Below w.heap.size w wr) (fun i _ => l - (intOf i).toNat)
    case atStart => exact ⟨0, Nat.zero_le _, rfl, fun m hm => absurd hm (Nat.not_lt_zero m), Box.alloc w [_, _, _, _, _, _] _, (Below.refl _ _).alloc (Nat.le_refl _) _⟩
    case round =>
      obtain ⟨q, hq, rfl, hm, hX, hB⟩ := hrel
      have x0 := hX.c 0 _ rfl
      have x3 := hX.c 3 _ rfl
      by_cases hql : q < l
      · obtain ⟨B, o, rfl, hlt, hc⟩ := (H1 wr hB).at' (by omega)
        obtain ⟨c0, c1, c2⟩ := hc q hql
        have hs := Lib.hid (hA.s q hql)
        rcases hr : rightV (el q).1 (el q).2.1.data.toList (el q).2.2 with _ | _
        · have Hr := Lib.hid hr
          clear hr
          go_wp2_with fail
          refine (rright_val _ _ hs _ _ Hr.out _).mono ?_
          rintro e w1 ⟨rfl, hb1⟩
          go_wp2_with fail
          refine (awake_true _).mono ?_
          rintro e w2 ⟨rfl, hb2⟩
          go_wp2
          go_ret
          exact ⟨rfl, bthen (bthen hB hb1) hb2⟩
        · have Hr := Lib.hid hr
          clear hr
          go_wp2_with fail
          refine (rright_val _ _ hs _ _ Hr.out _).mono ?_
          rintro e w1 ⟨rfl, hb1⟩
          go_wp2
          go_roundw
          case rel => exact ⟨q + 1, by omega, by go_num, right_succ hm Hr, hX.nx hb1, bthen hB hb1⟩
          case measure => simp [intOf]; omega
      · obtain rfl : q = l := by omega
        have hh := prog_doc op q el (fun m hmq => (hm m hmq).out)
        rcases hp : progV op q el with ⟨k, t, j, b⟩
        rcases hd : docV op q el with ⟨k2, t2, j2, b2⟩
        rw [hp, hd] at hh
        obtain ⟨hb0, hab⟩ := hh
        have hb0 : b = b2 := hb0
        subst hb0
        have Hp := Lib.hid hp
        have Hd := Lib.hid hd
        have HA := H1 wr hB
        clear hp hd hm
        have x1 := hX.c 1 _ rfl
        have x2 := hX.c 2 _ rfl
        have x4 := hX.c 4 _ rfl
        have x5 := hX.c 5 _ rfl
        cases b
        · clear hab
          go_wp2_with fail
          refine (prog_any op d nm pa pf po q cap lf kf lo ko el (by omega) _ _ _ _ Hp.out _ HA).mono ?_
          rintro e w1 ⟨rfl, hb1⟩
          have X1 := (hX.nx hb1).al
          have hB1 := bthen hB hb1
          clear x0 x1 x2 x3 x4 x5
          have x0 := fun o => (X1 o).c 0 _ rfl
          have x1 := fun o => (X1 o).c 1 _ rfl
          have x2 := fun o => (X1 o).c 2 _ rfl
          have x3 := fun o => (X1 o).c 3 _ rfl
          have x4 := fun o => (X1 o).c 4 _ rfl
          have x5 := fun o => (X1 o).c 5 _ rfl
          go_wp2_with fail
          refine (doc_any op d nm pa pf po q cap lf kf lo ko el (by omega) _ _ _ _ Hd.out _ (HA.below (bthen hb1 ((Below.refl _ _).alloc (Nat.le_refl _) _)))).mono ?_
          rintro e w2 ⟨rfl, hb2⟩
          obtain ⟨Y1, hb3⟩ := boxes1 hb2
          have hB2 := bthen hB1 hb3
          clear x0 x1 x2 x3 x4 x5
          go_wp2_with fail
          refine (awake_true _).mono ?_
          rintro e w3 ⟨rfl, hb4⟩
          obtain ⟨Y2, hb5⟩ := boxes1 hb4
          go_wp2
          go_ret
          exact ⟨rfl, bthen hB2 hb5⟩
        · have hab := hab rfl
          simp only [Prod.mk.injEq] at hab
          obtain ⟨rfl, rfl, rfl, -⟩ := hab
          go_wp2_with fail
          refine (prog_any op d nm pa pf po q cap lf kf lo ko el (by omega) _ _ _ _ Hp.out _ HA).mono ?_
          rintro e w1 ⟨rfl, hb1⟩
          have X1 := (hX.nx hb1).al
          have hB1 := bthen hB hb1
          clear x0 x1 x2 x3 x4 x5
          have x0 := fun o => (X1 o).c 0 _ rfl
          have x1 := fun o => (X1 o).c 1 _ rfl
          have x2 := fun o => (X1 o).c 2 _ rfl
          have x3 := fun o => (X1 o).c 3 _ rfl
          have x4 := fun o => (X1 o).c 4 _ rfl
          have x5 := fun o => (X1 o).c 5 _ rfl
          go_wp2_with fail
          refine (doc_any op d nm pa pf po q cap lf kf lo ko el (by omega) _ _ _ _ Hd.out _ (HA.below (bthen hb1 ((Below.refl _ _).alloc (Nat.le_refl _) _)))).mono ?_
          rintro e w2 ⟨rfl, hb2⟩
          obtain ⟨Y1, hb3⟩ := boxes1 hb2
          have hB2 := bthen hB1 hb3
          clear x0 x1 x2 x3 x4 x5
          go_wp2_with fail
          refine (awake_true _).mono ?_
          rintro e w3 ⟨rfl, hb4⟩
          obtain ⟨Y2, hb5⟩ := boxes1 hb4
          have Z1 := Y1.nx hb5
          have y0 := Z1.c 0 _ rfl
          have y1 := Z1.c 1 _ rfl
          have y2 := Z1.c 2 _ rfl
          have z0 := Y2.c 0 _ rfl
          have z1 := Y2.c 1 _ rfl
          have z2 := Y2.c 2 _ rfl
          go_wp2
          go_ret
          exact ⟨rfl, bthen hB2 hb5⟩
end Go.Proofs.Ytiheecgabfcigaa
