/- LinesSplits, LinesJoins. -/
import Derived.Test.YtejfienogljboaaDoorLinM
namespace Go.Proofs.YtejfienogljboaaDoor
open Go.RowKit

theorem at_nil (w : World) : LinesAt w (.slice none 0 0) [] := ⟨none, 0, rfl, fun i x h => by cases h⟩
theorem lines_cases (s : ByteArray) : (4194304 < s.size) ∨ (s.size ≤ 4194304 ∧ ((∃ l, linesOf s.data.toList = .inl l) ∨ ∃ k, linesOf s.data.toList = .inr k)) := by
  rcases Nat.lt_or_ge 4194304 s.size with h | h
  · exact .inl h
  · refine .inr ⟨h, ?_⟩
    cases linesOf s.data.toList with
    | inl l => exact .inl ⟨l, rfl⟩
    | inr k => exact .inr ⟨k, rfl⟩

set_option maxHeartbeats 4000000 in
theorem splits_walk (s : ByteArray) (m : Int) (w : World) (hm : w.cell? ⟨0, 0, none⟩ = some (.int .i64 m)) : Calls Tryd.prog 3 #[.string s] w fun e w' => e = .returned (.bool true) ∧ Below w.heap.size w w' := by
  have hm0 := cells_lt hm
  rcases lines_cases s with hbig | ⟨hs, ⟨l, hl⟩ | ⟨k, hk⟩⟩
  · have h1 := split_big s hbig w
    have h2 := rsplit_big s hbig
    have hA := awake_val m w hm
    clear hbig
    go_enter Tryd.func3, Tryd.ntmps3
    go_wp2_with fail
    refine h1.mono ?_
    rintro e w1 ⟨rfl, rfl⟩
    go_wp2_with fail
    refine (h2 _).mono ?_
    rintro e w1 ⟨rfl, rfl⟩
    go_wp2_with fail
    refine hA.mono ?_
    rintro e w3 ⟨rfl, hb3⟩
    have hB := back_val [] (by decide) _ _ (at_nil w3)
    go_wp2_with fail
    refine hB.mono ?_
    rintro e w4 ⟨v4, rfl, hb4, hr4⟩
    have hS := same_yes [] [] true _ _ _ hr4 (at_nil w4) rfl (fun _ => rfl) (by intro x h; cases h) (by decide)
    go_wp2_with fail
    refine hS.mono ?_
    rintro e w5 ⟨rfl, hb5⟩
    have hb := bthen (bthen hb3 hb4) hb5
    clear hS hB hA h1 h2
    go_wp2
    go_ret
    exact ⟨rfl, hb⟩
  · have hbd := lines_bnd hs hl
    have h1 := split_yes s hs hl m w hm
    have h2 := rsplit_yes s hs hl
    clear hl
    go_enter Tryd.func3, Tryd.ntmps3
    go_wp2_with fail
    refine h1.mono ?_
    rintro e w1 ⟨pu, cu, rfl, hb1, hr1⟩
    have hm1 := (hb1.cell hm0).trans hm
    go_wp2_with fail
    refine (h2 _).mono ?_
    rintro e w2 ⟨pu2, cu2, rfl, hb2, hr2⟩
    have hm2 := (hb2.cell (cells_lt hm1)).trans hm1
    have hx1 := (hr1.next hb2 (Nat.le_refl _)).at
    have hx2 := hr2.at
    have hb12 := bthen hb1 hb2
    have hA := awake_val m w2 hm2
    clear hr1 hr2 hb1 hb2 hm hm1 hm2 hm0 h1 h2
    go_wp2_with fail
    refine hA.mono ?_
    rintro e w3 ⟨rfl, hb3⟩
    have hx1 := hx1.next hb3 (Nat.le_refl _)
    have hx2 := hx2.next hb3 (Nat.le_refl _)
    have hb13 := bthen hb12 hb3
    have hB := back_val (ints l) hbd.n _ _ hx1
    clear hb12 hb3 hA
    go_wp2_with fail
    refine hB.mono ?_
    rintro e w4 ⟨v4, rfl, hb4, hr4⟩
    have hx2 := hx2.next hb4 (Nat.le_refl _)
    have hb14 := bthen hb13 hb4
    have hS := same_yes (ints l) (ints l) true _ _ _ hr4 hx2 rfl (fun _ => rfl) hbd.w hbd.n
    clear hb13 hb4 hB
    go_wp2_with fail
    refine hS.mono ?_
    rintro e w5 ⟨rfl, hb5⟩
    have hb := bthen hb14 hb5
    clear hS
    go_wp2
    go_ret
    exact ⟨rfl, hb⟩
  · have h1 := split_no s hs hk m w hm
    have h2 := rsplit_no s hs hk
    clear hk
    go_enter Tryd.func3, Tryd.ntmps3
    go_wp2_with fail
    refine h1.mono ?_
    rintro e w1 ⟨rfl, hb1⟩
    have hm1 := (hb1.cell hm0).trans hm
    go_wp2_with fail
    refine (h2 _).mono ?_
    rintro e w2 ⟨rfl, hb2⟩
    have hm2 := (hb2.cell (cells_lt hm1)).trans hm1
    have hb12 := bthen hb1 hb2
    have hA := awake_val m w2 hm2
    go_wp2_with fail
    refine hA.mono ?_
    rintro e w3 ⟨rfl, hb3⟩
    have hb13 := bthen hb12 hb3
    have hB := back_val [] (by decide) _ _ (at_nil w3)
    go_wp2_with fail
    refine hB.mono ?_
    rintro e w4 ⟨v4, rfl, hb4, hr4⟩
    have hS := same_yes [] [] true _ _ _ hr4 (at_nil w4) rfl (fun _ => rfl) (by intro x h; cases h) (by decide)
    go_wp2_with fail
    refine hS.mono ?_
    rintro e w5 ⟨rfl, hb5⟩
    have hb := bthen (bthen hb13 hb4) hb5
    clear hS hB hA h1 h2
    go_wp2
    go_ret
    exact ⟨rfl, hb⟩

theorem few_bnd {l : List LnI} (h : fewL l = true) : Bnd l := by
  obtain ⟨h1, h2, h3⟩ := fewL_true h
  have key : ∀ (ws : List By), (joinW ws).length ≤ wlen ws + ws.length := fun ws => by
    induction ws with
    | nil => simp [joinW]
    | cons x r ih =>
      by_cases e : r = []
      · subst e; simp [joinW, wlen]
      · rw [joinW_cons e]
        simp [wlen] at ih ⊢
        omega
  have key2 : ∀ (l : List LnI), (∀ x ∈ l, x.2.length ≤ 300) → (joinI l).length ≤ tlen l + 301 * l.length := fun l => by
    induction l with
    | nil => intro _; simp [joinI]
    | cons x r ih =>
      intro hx
      have h1 := ih fun y hy => hx y (by simp [hy])
      have h2 := key x.2
      have h3 := hx x (by simp)
      rw [joinI_cons]
      simp [tlen] at h1 ⊢
      omega
  have h4 := key2 l fun x hx => (h3 x hx).1
  exact bnd (by omega) fun x hx => by have := (h3 x hx).1; omega

set_option maxHeartbeats 4000000 in
theorem joins_walk (l : List LnI) (v : Value) (m : Int) (w : World) (hl : LinesAt w v l) (hm : w.cell? ⟨0, 0, none⟩ = some (.int .i64 m)) : Calls Tryd.prog 4 #[v] w fun e w' => e = .returned (.bool true) ∧ Below w.heap.size w w' := by
  have hF := few_val l v w hl
  have hA := awake_val m w hm
  cases hf : fewL l
  · rw [hf] at hF
    go_enter Tryd.func4, Tryd.ntmps4
    go_wp2_with fail
    refine hF.mono ?_
    rintro e w1 ⟨rfl, rfl⟩
    go_wp2_with fail
    refine hA.mono ?_
    rintro e w3 ⟨rfl, hb3⟩
    clear hF hA hf
    go_wp2
    go_ret
    exact ⟨rfl, hb3⟩
  · rw [hf] at hF
    have hbd := few_bnd hf
    clear hf
    have hj := hbd.j
    go_enter Tryd.func4, Tryd.ntmps4
    go_wp2_with fail
    refine hF.mono ?_
    rintro e w1 ⟨rfl, rfl⟩
    go_wp2_with fail
    refine hA.mono ?_
    rintro e w3 ⟨rfl, hb3⟩
    have hl3 := hl.next hb3 (Nat.le_refl _)
    have hT := there_val l hbd.n v w3 hl3
    clear hF hA
    go_wp2_with fail
    refine hT.mono ?_
    rintro e w4 ⟨v4, rfl, hb4, hr4⟩
    have hl4 := hl3.next hb4 (Nat.le_refl _)
    have hb14 := bthen hb3 hb4
    have hJ := join_val l (by omega) _ _ hr4
    clear hT
    go_wp2_with fail
    refine hJ.mono ?_
    rintro e w5 ⟨rfl, hb5⟩
    have hl5 := hl4.next hb5 (Nat.le_refl _)
    have hb15 := bthen hb14 hb5
    have hR := rjoin_val l (by omega) _ _ hl5
    clear hJ
    go_wp2_with fail
    refine hR.mono ?_
    rintro e w6 ⟨rfl, hb6⟩
    have hb := bthen hb15 hb6
    clear hR hj hbd
    generalize joinI l = J
    go_wp2
    go_ret
    exact ⟨rfl, hb⟩
end Go.Proofs.YtejfienogljboaaDoor
