/- LinesAgain. -/
import Derived.Test.YtejfienogljboaaDoorLinP
namespace Go.Proofs.YtejfienogljboaaDoor
open Go.RowKit

theorem ext_one (s : ByteArray) (q : Nat) (h : q < s.size) : s.extract q (q + 1) = ⟨#[s[q]]⟩ := by
  apply str_ext
  have := extract_word s q (q + 1) (s.data.toList.take q) [s[q]] (take_snoc s q h) (by simp; omega)
  rw [this]
theorem append_data (a b : ByteArray) : (a ++ b).data.toList = a.data.toList ++ b.data.toList := by simp
theorem spread_len : ∀ (l : By), (spread l).length ≤ 3 * l.length
  | [] => by simp [spread]
  | c :: r => by
    have := spread_len r
    rw [spread_cons]
    split <;> simp <;> omega
theorem spread_snoc (l : By) (c : UInt8) : spread (l ++ [c]) = spread l ++ (if c = 32 then [32, 9, 32] else [c]) := by simp [spread]

theorem wo_ints (l : List Ln) : (ints l).map (·.2) = wo l := by simp [ints, wo]
def PlainAt (r : ByteArray) (q : Nat) (b : Bool) : Prop := b = true ↔ ∀ c ∈ r.data.toList.take q, c ≠ 10
set_option maxHeartbeats 4000000 in
theorem linesAgain_walk (s r : ByteArray) (hs : s.size ≤ 140737488351232) (hr : r.size ≤ 140737488351232) (w : World) (m : Int) (hm : w.cell? ⟨0, 0, none⟩ = some (.int .i64 m)) : Calls Tryd.prog 5 #[.string s, .string r] w fun e w' => e = .returned (.bool true) ∧ Below w.heap.size w w' := by
  have h1 := split_any s m w hm
  go_enter Tryd.func5, Tryd.ntmps5
  go_wp2_with fail
  refine h1.mono ?_
  rintro e w1 ⟨pu, n, cu, at', why, rfl, hb1, hD⟩
  have hm1 := (hb1.cell (cells_lt hm)).trans hm
  have hA := awake_val m w1 hm1
  have hA2 := fun w2 (h : Below w1.heap.size w1 w2) => awake_val m w2 ((h.cell (cells_lt hm1)).trans hm1)
  clear h1 hm
  go_wp2_with fail
  refine hA.mono ?_
  rintro e w3 ⟨rfl, hb3⟩
  have hA3 := hA2 w3 hb3
  have hb13 := bthen hb1 hb3
  clear hA hA2
  rcases hD with ⟨hw, rfl, rfl, rfl, hat⟩ | ⟨rfl, rfl, hs4, l, rfl, hl, hrow⟩
  · have hw0 : (why : Int) ≠ 0 := by omega
    clear hw hat hm1
    go_wp2_with fail
    refine hA3.mono ?_
    rintro e w4 ⟨rfl, hb4⟩
    have hb14 := bthen hb13 hb4
    clear hA3 hb13 hb4
    go_wp2
    go_ret
    exact ⟨rfl, hb14⟩
  by_cases hbs : 30000 < s.size
  · have hbI : (30000 : Int) < (s.size : Int) := by omega
    clear hm1
    go_wp2_with fail
    refine hA3.mono ?_
    rintro e w4 ⟨rfl, hb4⟩
    have hb14 := bthen hb13 hb4
    clear hA3 hb13 hb4
    go_wp2
    go_ret
    exact ⟨rfl, hb14⟩
  have hbI : ¬ (30000 : Int) < (s.size : Int) := by omega
  by_cases hbr : 1000 < r.size
  · have hrI : (1000 : Int) < (r.size : Int) := by omega
    clear hm1
    go_wp2_with fail
    refine hA3.mono ?_
    rintro e w4 ⟨rfl, hb4⟩
    have hb14 := bthen hb13 hb4
    clear hA3 hb13 hb4
    go_wp2
    go_ret
    exact ⟨rfl, hb14⟩
  have hrI : ¬ (1000 : Int) < (r.size : Int) := by omega
  have hbd := lines_bnd hs4 hl
  have hx3 := (hrow.next hb3 (Nat.le_refl _)).at
  have hj := hbd.j
  have hJ := join_val (ints l) (by omega) _ _ hx3
  have hm3 := (hb3.cell (cells_lt hm1)).trans hm1
  obtain ⟨m2, hm2, hwo2⟩ := lines_join hl
  have hjl : (joinI (ints l)) = joinL l := joinI_ints l
  rw [hjl] at hJ hj
  clear hA3 hb1 hb3 hm1 hrow hjl
  go_wp2_with fail
  refine hJ.mono ?_
  rintro e w4 ⟨rfl, hb4⟩
  have hb14 := bthen hb13 hb4
  have hm4 := (hb4.cell (cells_lt hm3)).trans hm3
  have hx4 := hx3.next hb4 (Nat.le_refl _)
  have hs2 : (⟨(joinL l).toArray⟩ : ByteArray).size ≤ 4194304 := by
    have := lines_jl hl
    have e : s.data.toList.length = s.size := by simp
    have e2 : (⟨(joinL l).toArray⟩ : ByteArray).size = (joinL l).length := by simp [ByteArray.size]
    omega
  have hm2' : linesOf (⟨(joinL l).toArray⟩ : ByteArray).data.toList = .inl m2 := hm2
  have hbd2 := lines_bnd hs2 hm2'
  have hS := split_yes ⟨(joinL l).toArray⟩ hs2 hm2' m w4 hm4
  clear hJ hb13 hb4 hm3 hx3
  go_wp2_with fail
  refine hS.mono ?_
  rintro e w5 ⟨pu5, cu5, rfl, hb5, hr5⟩
  have hb15 := bthen hb14 hb5
  have hm5 := (hb5.cell (cells_lt hm4)).trans hm4
  have hx5 := hx4.next hb5 (Nat.le_refl _)
  have hy5 := hr5.at
  clear hS hb14 hb5 hm4 hx4 hr5 hm2 hm2' hs2
  go_wp2_with fail
  obtain ⟨w6, rfl⟩ : ∃ w6 : World, w6 = w5 := ⟨_, rfl⟩
  go_loopw [11, 12, 13] (fun t i _ wr => ∃ q : Nat, ∃ tt : ByteArray, q ≤ s.size ∧ i = .int .i64 (q : Int) ∧ t = .string tt ∧ tt.data.toList = [10, 32, 9, 10] ++ spread (s.data.toList.take q) ∧ wr = w6) (fun _ i _ _ => s.size - (intOf i).toNat)
  case atStart => exact ⟨0, _, Nat.zero_le _, rfl, rfl, by simp [spread], rfl⟩
  case round =>
    obtain ⟨q, tt, hq, rfl, rfl, htt, rfl⟩ := hrel
    have htl : tt.size ≤ 90010 := by
      have h1 := spread_len (s.data.toList.take q)
      have h2 := congrArg List.length htt
      simp at h1 h2
      omega
    by_cases hend : q = s.size
    · subst hend
      rw [List.take_of_length_le (by simp)] at htt
      go_wp2_with fail
      obtain ⟨w7, rfl⟩ : ∃ w7 : World, w7 = wr := ⟨_, rfl⟩
      go_loopw [14, 15] (fun pl i wr => ∃ q : Nat, ∃ b : Bool, q ≤ r.size ∧ i = .int .i64 (q : Int) ∧ pl = .bool b ∧ PlainAt r q b ∧ wr = w7) (fun _ i _ => r.size - (intOf i).toNat)
      case atStart => exact ⟨0, true, Nat.zero_le _, rfl, rfl, by simp [PlainAt], rfl⟩
      case round =>
        obtain ⟨q, b, hq2, rfl, rfl, hb, rfl⟩ := hrel
        by_cases hend : q = r.size
        · subst hend
          unfold PlainAt at hb
          rw [List.take_of_length_le (by simp)] at hb
          cases b
          · obtain ⟨⟨m3, hm3, hwo3⟩, -⟩ := lines_again (x := []) hl (fun c h => by cases h)
            have hs3 : tt.size ≤ 4194304 := by omega
            rw [← htt] at hm3
            have hbd3 := lines_bnd hs3 hm3
            clear hb htt
            have hS := split_yes tt (by omega) hm3 m wr hm5
            clear hm3 hm5
            go_wp2_with fail
            refine hS.mono ?_
            rintro e w8 ⟨pu8, cu8, rfl, hb8, hr8⟩
            have hb18 := bthen hb15 hb8
            have hx8 := hx5.next hb8 (Nat.le_refl _)
            have hy8 := hy5.next hb8 (Nat.le_refl _)
            have hz8 := hr8.at
            have hB := back_val (ints l) hbd.n _ _ hx8
            clear hS hb15 hb8 hx5 hy5 hr8
            go_wp2_with fail
            refine hB.mono ?_
            rintro e w9 ⟨v9, rfl, hb9, hr9⟩
            have hb19 := bthen hb18 hb9
            have hx9 := hx8.next hb9 (Nat.le_refl _)
            have hy9 := hy8.next hb9 (Nat.le_refl _)
            have hz9 := hz8.next hb9 (Nat.le_refl _)
            have hB2 := back_val (ints m2) hbd2.n _ _ hy9
            clear hB hb18 hb9 hx8 hy8 hz8
            go_wp2_with fail
            refine hB2.mono ?_
            rintro e w10 ⟨v10, rfl, hb10, hr10⟩
            have hb110 := bthen hb19 hb10
            have hx10 := hx9.next hb10 (Nat.le_refl _)
            have hz10 := hz9.next hb10 (Nat.le_refl _)
            have hp10 := hr9.next hb10 (Nat.le_refl _)
            have hS := same_yes (ints l) (ints m2) false _ _ _ hp10 hr10 (by rw [wo_ints, wo_ints, hwo2]) (fun h => by cases h) hbd.w hbd.n
            clear hB2 hb19 hb10 hx9 hy9 hz9 hr9
            go_wp2_with fail
            refine hS.mono ?_
            rintro e w11 ⟨rfl, hb11⟩
            have hb111 := bthen hb110 hb11
            have hx11 := hx10.next hb11 (Nat.le_refl _)
            have hz11 := hz10.next hb11 (Nat.le_refl _)
            have hB := back_val (ints l) hbd.n _ _ hx11
            clear hS hb110 hb11 hx10 hz10 hp10 hr10
            go_wp2_with fail
            refine hB.mono ?_
            rintro e w12 ⟨v12, rfl, hb12, hr12⟩
            have hb112 := bthen hb111 hb12
            have hz12 := hz11.next hb12 (Nat.le_refl _)
            have hB := back_val (ints m3) hbd3.n _ _ hz12
            clear hb111 hb12 hx11 hz11
            go_wp2_with fail
            refine hB.mono ?_
            rintro e w13 ⟨v13, rfl, hb13, hr13⟩
            have hb113 := bthen hb112 hb13
            have hp13 := hr12.next hb13 (Nat.le_refl _)
            have hS := same_yes (ints l) (ints m3) false _ _ _ hp13 hr13 (by rw [wo_ints, wo_ints, hwo3]) (fun h => by cases h) hbd.w hbd.n
            clear hB hb112 hb13 hz12 hr12
            go_wp2_with fail
            refine hS.mono ?_
            rintro e w14 ⟨rfl, hb14⟩
            have hb114 := bthen hb113 hb14
            clear hS
            go_wp2
            go_ret
            exact ⟨rfl, hb114⟩
          · obtain ⟨-, m3, hm3, hwo3⟩ := lines_again (x := r.data.toList) hl (hb.1 rfl)
            have ht2 : (tt ++ ⟨#[59]⟩ ++ r).data.toList = [10, 32, 9, 10] ++ spread s.data.toList ++ 59 :: r.data.toList := by rw [append_data, append_data, htt]; simp
            have hs3 : (tt ++ ⟨#[59]⟩ ++ r).size ≤ 4194304 := by
              have h0 : (⟨#[59]⟩ : ByteArray).size = 1 := rfl
              rw [ByteArray.size_append, ByteArray.size_append, h0]
              omega
            rw [← ht2] at hm3
            have hbd3 := lines_bnd hs3 hm3
            clear hb htt ht2
            have hS := split_yes (tt ++ ⟨#[59]⟩ ++ r) (by exact hs3) hm3 m wr hm5
            clear hm3 hm5
            go_wp2_with fail
            refine hS.mono ?_
            rintro e w8 ⟨pu8, cu8, rfl, hb8, hr8⟩
            have hb18 := bthen hb15 hb8
            have hx8 := hx5.next hb8 (Nat.le_refl _)
            have hy8 := hy5.next hb8 (Nat.le_refl _)
            have hz8 := hr8.at
            have hB := back_val (ints l) hbd.n _ _ hx8
            clear hS hb15 hb8 hx5 hy5 hr8
            go_wp2_with fail
            refine hB.mono ?_
            rintro e w9 ⟨v9, rfl, hb9, hr9⟩
            have hb19 := bthen hb18 hb9
            have hx9 := hx8.next hb9 (Nat.le_refl _)
            have hy9 := hy8.next hb9 (Nat.le_refl _)
            have hz9 := hz8.next hb9 (Nat.le_refl _)
            have hB2 := back_val (ints m2) hbd2.n _ _ hy9
            clear hB hb18 hb9 hx8 hy8 hz8
            go_wp2_with fail
            refine hB2.mono ?_
            rintro e w10 ⟨v10, rfl, hb10, hr10⟩
            have hb110 := bthen hb19 hb10
            have hx10 := hx9.next hb10 (Nat.le_refl _)
            have hz10 := hz9.next hb10 (Nat.le_refl _)
            have hp10 := hr9.next hb10 (Nat.le_refl _)
            have hS := same_yes (ints l) (ints m2) false _ _ _ hp10 hr10 (by rw [wo_ints, wo_ints, hwo2]) (fun h => by cases h) hbd.w hbd.n
            clear hB2 hb19 hb10 hx9 hy9 hz9 hr9
            go_wp2_with fail
            refine hS.mono ?_
            rintro e w11 ⟨rfl, hb11⟩
            have hb111 := bthen hb110 hb11
            have hx11 := hx10.next hb11 (Nat.le_refl _)
            have hz11 := hz10.next hb11 (Nat.le_refl _)
            have hB := back_val (ints l) hbd.n _ _ hx11
            clear hS hb110 hb11 hx10 hz10 hp10 hr10
            go_wp2_with fail
            refine hB.mono ?_
            rintro e w12 ⟨v12, rfl, hb12, hr12⟩
            have hb112 := bthen hb111 hb12
            have hz12 := hz11.next hb12 (Nat.le_refl _)
            have hB := back_val (ints m3) hbd3.n _ _ hz12
            clear hb111 hb12 hx11 hz11
            go_wp2_with fail
            refine hB.mono ?_
            rintro e w13 ⟨v13, rfl, hb13, hr13⟩
            have hb113 := bthen hb112 hb13
            have hp13 := hr12.next hb13 (Nat.le_refl _)
            have hS := same_yes (ints l) (ints m3) false _ _ _ hp13 hr13 (by rw [wo_ints, wo_ints, hwo3]) (fun h => by cases h) hbd.w hbd.n
            clear hB hb112 hb13 hz12 hr12
            go_wp2_with fail
            refine hS.mono ?_
            rintro e w14 ⟨rfl, hb14⟩
            have hb114 := bthen hb113 hb14
            clear hS
            go_wp2
            go_ret
            exact ⟨rfl, hb114⟩
        · have hlt : q < r.size := by omega
          have hqI : (q : Int) < (r.size : Int) := by omega
          have hsn := take_snoc r q hlt
          generalize hcc : r[q] = c at hsn
          have hcell : r[q] = c := hcc
          clear hcc hend
          cases b
          · have hb2 : ¬ ∀ c ∈ r.data.toList.take (q + 1), c ≠ 10 := fun h => by
              have := hb.2 fun c hc => h c (by rw [hsn]; simp [hc])
              cases this
            clear hb hsn
            go_wp2
            go_roundw
            case rel => exact ⟨q + 1, false, by omega, by go_num, rfl, ⟨fun h => (by cases h), fun h => absurd h hb2⟩, trivial⟩
            case measure => simp [intOf]; omega
          · by_cases h10 : c = 10
            · subst h10
              have hc10 : (((10 : UInt8).toNat : Nat) : Int) = 10 := rfl
              have hb2 : ¬ ∀ c ∈ r.data.toList.take (q + 1), c ≠ 10 := fun h => h 10 (by rw [hsn]; simp) rfl
              clear hb hsn
              go_wp2
              go_roundw
              case rel => exact ⟨q + 1, false, by omega, by go_num, rfl, ⟨fun h => (by cases h), fun h => absurd h hb2⟩, trivial⟩
              case measure => simp [intOf]; omega
            · have hc10 : ((c.toNat : Int) != 10) = true := by simp only [bne_iff_ne]; exact fun h => h10 (UInt8.toNat_inj.1 (by show c.toNat = 10; omega))
              have hb2 : ∀ c ∈ r.data.toList.take (q + 1), c ≠ 10 := fun c' hc' => by
                rw [hsn] at hc'
                rcases List.mem_append.1 hc' with h | h
                · exact hb.1 rfl c' h
                · simp at h; subst h; exact h10
              clear hb hsn
              go_wp2
              go_roundw
              case rel => exact ⟨q + 1, true, by omega, by go_num, rfl, ⟨fun _ => hb2, fun _ => rfl⟩, trivial⟩
              case measure => simp [intOf]; omega
    · have hlt : q < s.size := by omega
      have hqI : (q : Int) < (s.size : Int) := by omega
      have hsn := take_snoc s q hlt
      have hex := ext_one s q hlt
      have hsp := spread_snoc (s.data.toList.take q) s[q]
      rw [← hsn] at hsp
      clear hsn
      generalize s[q] = c at *
      by_cases h32 : c = 32
      · subst h32
        rw [if_pos rfl] at hsp
        clear hend
        go_wp2
        go_roundw
        case rel => exact ⟨q + 1, _, by omega, by go_num, rfl, by rw [append_data, htt, hsp, List.append_assoc], trivial⟩
        case measure => simp [intOf]; omega
      · rw [if_neg h32] at hsp
        have hc32 : (c == 32) = false := by simpa using h32
        clear hend h32
        go_wp2
        go_roundw
        case rel => exact ⟨q + 1, _, by omega, by go_num, rfl, by rw [append_data, htt, hsp, List.append_assoc], trivial⟩
        case measure => simp [intOf]; omega
end Go.Proofs.YtejfienogljboaaDoor
