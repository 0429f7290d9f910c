/- LinesKeeps: the walk. -/
import Derived.Test.YtejfienogljboaaDoorLinS
namespace Go.Proofs.YtejfienogljboaaDoor
open Go Go.ChangeShapes Go.WideShapes Go.RowKit

theorem src_old {w wb : World} {p : Option Addr} {n cu : Nat} {l : List LnI} {ns : Nat → Int} {us : Nat → Value} (hl : LinesAt w (.slice p n cu) l) (hb : Below w.heap.size w wb) (h : Src wb p l ns us) : ∀ (i : Nat) x, l[i]? = some x → StrAt w (us i) x.2 := by
  intro i x hx
  have hi : i < l.length := by
    rcases Nat.lt_or_ge i l.length with h1 | h1
    · exact h1
    · rw [List.getElem?_eq_none h1] at hx; cases hx
  obtain ⟨p', c', e, hl⟩ := hl
  injection e with e1
  subst e1
  obtain ⟨a, u, h1, _, h3, h4⟩ := hl i x hx
  obtain ⟨a', g1, _, g3⟩ := h.c i hi
  rw [h1] at g1
  obtain rfl : a = a' := by simpa using g1
  rw [hb.cell (cells_lt h3), h3] at g3
  obtain rfl : u = us i := by simpa using g3
  exact h4
set_option maxHeartbeats 4000000 in
theorem keeps_walk (s : ByteArray) (l : List LnI) (v : Value) (m : Int) (w : World) (hl : LinesAt w v l) (hm : w.cell? ⟨0, 0, none⟩ = some (.int .i64 m)) : Calls Tryd.prog 8 #[.string s, v] w fun e w' => e = .returned (.bool true) ∧ Below w.heap.size w w' := by
  have hA := awake_val m w hm
  have hA2 := fun w3 (h : Below w.heap.size w w3) => awake_val m w3 ((h.cell (cells_lt hm)).trans hm)
  go_enter Tryd.func8, Tryd.ntmps8
  go_wp2_with fail
  refine hA.mono ?_
  rintro e w3 ⟨rfl, hb3⟩
  have hA3 := hA2 w3 hb3
  have hl3 := hl.next hb3 (Nat.le_refl _)
  have hF := few_val l v w3 hl3
  have hm3 := (hb3.cell (cells_lt hm)).trans hm
  clear hA hA2 hm
  cases hf : fewL l
  · rw [hf] at hF
    clear hf hm3 hl hl3
    go_wp2_with fail
    refine hF.mono ?_
    rintro e w4 ⟨rfl, rfl⟩
    clear hF
    go_wp2_with fail
    refine hA3.mono ?_
    rintro e w4 ⟨rfl, hb4⟩
    have hb14 := bthen hb3 hb4
    clear hA3 hb3 hb4
    go_wp2
    go_ret
    exact ⟨rfl, hb14⟩
  rw [hf] at hF
  have hbl := few_bnd hf
  clear hf
  go_wp2_with fail
  refine hF.mono ?_
  rintro e w4 ⟨rfl, rfl⟩
  clear hF
  by_cases hbs : 30000 < s.size
  · have hbI : (30000 : Int) < (s.size : Int) := by omega
    clear hl hl3 hm3
    go_wp2_with fail
    refine hA3.mono ?_
    rintro e w4 ⟨rfl, hb4⟩
    have hb14 := bthen hb3 hb4
    clear hA3 hb3 hb4
    go_wp2
    go_ret
    exact ⟨rfl, hb14⟩
  have hbI : ¬ (30000 : Int) < (s.size : Int) := by omega
  clear hA3
  obtain ⟨p, cu, rfl, -⟩ := id hl
  rcases lines_cases s with hbig | ⟨hs, ⟨L, hL⟩ | ⟨k, hk⟩⟩
  · omega
  · have hbd := lines_bnd hs hL
    have hS := split_yes s hs hL m w3 hm3
    go_wp2_with fail
    refine hS.mono ?_
    rintro e wa ⟨pa, ca, rfl, hba, hra⟩
    have hb13 := bthen hb3 hba
    have hma := (hba.cell (cells_lt hm3)).trans hm3
    have hS := split_yes s hs hL m wa hma
    obtain ⟨_, _, pw, ln, cw, ev, hSp, hln⟩ := spoil hra fun x hx => hbd.w ((x.1 : Int), x.2) (List.mem_map.2 ⟨x, hx, rfl⟩)
    injection ev with e1 e2 e3
    subst e1 e3
    have hB3 : w.heap.size ≤ w3.heap.size := hb3.size
    clear hra e2
    go_wp2_with fail
    refine hS.mono ?_
    rintro e wb ⟨pb, cb, rfl, hbb, hrb⟩
    have hb14 := bthen hb13 hbb
    have hSp := hSp.next hbb (Nat.le_refl _)
    have hlb := hl.next hb14 (Nat.le_refl _)
    have hT := there_valI l hbl.n p cu wb hlb
    clear hS hm3 hl3 hba hb3 hb13 hma
    go_wp2_with fail
    refine hT.mono ?_
    rintro e wm ⟨vm, ns, us, rfl, hbm, hom, hsm⟩
    have hb15 := bthen hb14 hbm
    have hSp := hSp.next hbm (Nat.le_refl _)
    have hrb := hrb.next hbm (Nat.le_refl _)
    have hlm := hl.next hb15 (Nat.le_refl _)
    have hJ := join_val l (by have := hbl.j; omega) _ _ (iv_at hom fun i x hx => ⟨(hsm.r i x hx).1, (hsm.r i x hx).2.next hbm (Nat.le_refl _)⟩)
    obtain ⟨pm, cm, rfl⟩ := hom.slice
    have hso := src_old hl hb14 hsm
    clear hT hlb hb14
    go_wp2_with fail
    refine hJ.mono ?_
    rintro e wj ⟨rfl, hbj⟩
    have hb16 := bthen hb15 hbj
    have hSp := hSp.next hbj (Nat.le_refl _)
    have hrb := hrb.next hbj (Nat.le_refl _)
    have hom := hom.next hbj (Nat.le_refl _)
    have hz := hbb.size
    clear hJ hb15 hbj hlm
    have hn := hbd.n
    rw [ints_len] at hn
    obtain ⟨J, hJ⟩ : ∃ J : ByteArray, J = ⟨(joinI l).toArray⟩ := ⟨_, rfl⟩
    rw [← hJ]
    clear hJ
    go_wp2_with fail
    go_loopw [12, 13] (fun i _ wr => ∃ q : Nat, q ≤ L.length ∧ i = .int .i64 (q : Int) ∧ Below w.heap.size w wr ∧ Spoil wr pa L.length pw ln cw w3.heap.size wa.heap.size ∧ ∀ k, wa.heap.size ≤ k → wr.heap[k]? = wj.heap[k]?) (fun i _ _ => L.length - (intOf i).toNat)
    case atStart => exact ⟨0, Nat.zero_le _, rfl, hb16, hSp, fun _ _ => rfl⟩
    case round =>
      obtain ⟨q, hq, rfl, hb, hp, hkp⟩ := hrel
      by_cases hend : q = L.length
      · subst hend
        have hLb := line_keep hrb hkp
        have hLm := iv_keep hom (fun k hk => hkp k (Nat.le_trans hz hk)) fun i x hx => ⟨(hsm.r i x hx).1, (hso i x hx).next hb (Nat.le_refl _)⟩
        have hLl := hl.next hb (Nat.le_refl _)
        have hS := rsplit_yes s hs hL wr
        clear hp hkp hrb hom hSp hsm hso hln hb16
        go_wp2_with fail
        refine hS.mono ?_
        rintro e wc ⟨pc, cc, rfl, hbc, hrc⟩
        have hb17 := bthen hb hbc
        have hLb := hLb.next hbc (Nat.le_refl _)
        have hLm := hLm.next hbc (Nat.le_refl _)
        have hLl := hLl.next hbc (Nat.le_refl _)
        have hLc := hrc.at
        have hB := back_val (ints L) hbd.n _ _ hLb
        clear hS hb hbc hrc
        go_wp2_with fail
        refine hB.mono ?_
        rintro e w8 ⟨v8, rfl, hb8, hr8⟩
        have hb18 := bthen hb17 hb8
        have hLm := hLm.next hb8 (Nat.le_refl _)
        have hLl := hLl.next hb8 (Nat.le_refl _)
        have hLc := hLc.next hb8 (Nat.le_refl _)
        have hS := same_yes (ints L) (ints L) true _ _ _ hr8 hLc rfl (fun _ => rfl) hbd.w hbd.n
        clear hB hb17 hb8 hLb
        go_wp2_with fail
        refine hS.mono ?_
        rintro e w9 ⟨rfl, hb9⟩
        have hb19 := bthen hb18 hb9
        have hLm := hLm.next hb9 (Nat.le_refl _)
        have hLl := hLl.next hb9 (Nat.le_refl _)
        have hB := back_val l hbl.n _ _ hLm
        clear hS hb18 hb9 hr8 hLc
        go_wp2_with fail
        refine hB.mono ?_
        rintro e w10 ⟨v10, rfl, hb10, hr10⟩
        have hb110 := bthen hb19 hb10
        have hLl := hLl.next hb10 (Nat.le_refl _)
        have hS := same_yes l l true _ _ _ hr10 hLl rfl (fun _ => rfl) hbl.w hbl.n
        clear hB hb19 hb10 hLm
        go_wp2_with fail
        refine hS.mono ?_
        rintro e w11 ⟨rfl, hb11⟩
        have hb111 := bthen hb110 hb11
        clear hS
        go_wp2
        go_ret
        exact ⟨rfl, hb111⟩
      · have hlt : q < L.length := by omega
        have hltI : (q : Int) < (L.length : Int) := by omega
        have hlq := hln q
        go_wp2_with fail
        go_loopw [13] (fun i wr => ∃ j : Nat, j ≤ ln q ∧ i = .int .i64 (j : Int) ∧ Below w.heap.size w wr ∧ Spoil wr pa L.length pw ln cw w3.heap.size wa.heap.size ∧ ∀ k, wa.heap.size ≤ k → wr.heap[k]? = wj.heap[k]?) (fun i _ => ln q - (intOf i).toNat)
        case atStart => exact ⟨0, Nat.zero_le _, rfl, hb, hp, hkp⟩
        case round =>
          clear hb hp hkp
          obtain ⟨j, hj, rfl, hb, hp, hkp⟩ := hrel
          obtain ⟨d, rfl, c1⟩ := hp.c q hlt
          by_cases hje : j = ln q
          · rw [hje]
            go_wp2
            go_roundw
            case rel => exact ⟨q + 1, by omega, by go_num, hb, hp, hkp⟩
            case measure => simp [intOf]; omega
          · have hjl : j < ln q := by omega
            have hjI : (j : Int) < (ln q : Int) := by omega
            obtain ⟨b, t, h1, h2, h3, h4, h5⟩ := hp.s q j hlt hjl
            rw [h1] at c1
            have hp2 := hp.put h2 ⟨#[115, 112, 111, 105, 108, 116]⟩
            have hb2 := hb.setCell (p := b.add j) (by rw [add_block]; omega) (.string ⟨#[115, 112, 111, 105, 108, 116]⟩)
            have hk2 : ∀ k, wa.heap.size ≤ k → (wr.setCell (b.add j) (.string ⟨#[115, 112, 111, 105, 108, 116]⟩)).heap[k]? = wj.heap[k]? := fun k hk => by
              rw [← hkp k hk]
              exact Below.heap_setCell _ _ _ _ (by rw [add_block]; omega)
            clear hp hb hkp h1 hje
            go_wp2
            go_roundw
            case rel => exact ⟨j + 1, by omega, by go_num, hb2, hp2, hk2⟩
            case measure => simp [intOf]; omega
  · have hS := split_no s hs hk m w3 hm3
    go_wp2_with fail
    refine hS.mono ?_
    rintro e wa ⟨rfl, hba⟩
    have hb13 := bthen hb3 hba
    have hma := (hba.cell (cells_lt hm3)).trans hm3
    have hS := split_no s hs hk m wa hma
    go_wp2_with fail
    refine hS.mono ?_
    rintro e wb ⟨rfl, hbb⟩
    have hb14 := bthen hb13 hbb
    have hlb := hl.next hb14 (Nat.le_refl _)
    have hT := there_val l hbl.n _ wb hlb
    clear hS hm3 hl3 hba hb3 hb13 hma hbb
    go_wp2_with fail
    refine hT.mono ?_
    rintro e wm ⟨vm, rfl, hbm, hlm⟩
    have hb15 := bthen hb14 hbm
    have hJ := join_val l (by have := hbl.j; omega) _ _ hlm
    clear hT hlb hb14
    go_wp2_with fail
    refine hJ.mono ?_
    rintro e wj ⟨rfl, hbj⟩
    have hb16 := bthen hb15 hbj
    have hLm := hlm.next hbj (Nat.le_refl _)
    clear hJ hb15 hbj hlm
    obtain ⟨J, hJ⟩ : ∃ J : ByteArray, J = ⟨(joinI l).toArray⟩ := ⟨_, rfl⟩
    rw [← hJ]
    clear hJ
    go_wp2_with fail
    go_loopw [12, 13] (fun i _ wr => i = .int .i64 0 ∧ wr = wj) (fun _ _ _ => 0)
    case atStart => exact ⟨rfl, rfl⟩
    case round =>
      obtain ⟨rfl, rfl⟩ := hrel
      have hLl := hl.next hb16 (Nat.le_refl _)
      have hS := rsplit_no s hs hk wr
      go_wp2_with fail
      refine hS.mono ?_
      rintro e wc ⟨rfl, hbc⟩
      have hb17 := bthen hb16 hbc
      have hLm := hLm.next hbc (Nat.le_refl _)
      have hLl := hLl.next hbc (Nat.le_refl _)
      have hB := back_val [] (by decide) _ _ (at_nil wc)
      clear hS hb16 hbc
      go_wp2_with fail
      refine hB.mono ?_
      rintro e w8 ⟨v8, rfl, hb8, hr8⟩
      have hb18 := bthen hb17 hb8
      have hLm := hLm.next hb8 (Nat.le_refl _)
      have hLl := hLl.next hb8 (Nat.le_refl _)
      have hS := same_yes [] [] true _ _ _ hr8 (at_nil w8) rfl (fun _ => rfl) (by intro x h; cases h) (by decide)
      clear hB hb17 hb8
      go_wp2_with fail
      refine hS.mono ?_
      rintro e w9 ⟨rfl, hb9⟩
      have hb19 := bthen hb18 hb9
      have hLm := hLm.next hb9 (Nat.le_refl _)
      have hLl := hLl.next hb9 (Nat.le_refl _)
      have hB := back_val l hbl.n _ _ hLm
      clear hS hb18 hb9 hr8
      go_wp2_with fail
      refine hB.mono ?_
      rintro e w10 ⟨v10, rfl, hb10, hr10⟩
      have hb110 := bthen hb19 hb10
      have hLl := hLl.next hb10 (Nat.le_refl _)
      have hS := same_yes l l true _ _ _ hr10 hLl rfl (fun _ => rfl) hbl.w hbl.n
      clear hB hb19 hb10 hLm
      go_wp2_with fail
      refine hS.mono ?_
      rintro e w11 ⟨rfl, hb11⟩
      have hb111 := bthen hb110 hb11
      clear hS
      go_wp2
      go_ret
      exact ⟨rfl, hb111⟩

theorem linesKeeps_all (H : Type) (enc : TypeId × Value → H) (W : World) (base : Nat) (args : Array Value) (ds gs : List (DataW H)) (before : List MemPlace)
    (hval : ∀ (j : Nat) t v, Tryd.f8.params[j]? = some t → args[j]? = some v → Value.okWide Tryd.prog W .any base t v)
    (hW : DataW.Whole enc Tryd.prog Tryd.f8.params.toList [] false W args.toList ds gs before) (m : Int) (hm : W.cell? ⟨0, 0, none⟩ = some (.int .i64 m)) :
    Calls Tryd.prog 8 args W fun e W' => e = .returned (.bool true) ∧ Below W.heap.size W W' := by
  obtain ⟨p, q, hA0, hV, rfl, _, _⟩ := hW
  have hA : DataW.TrodAll enc Tryd.prog W 0 (fun _ => true) true Tryd.f8.params.toList args.toList ds p := hA0
  rw [Tryd.params8] at hA hval
  obtain ⟨v0, vs0, d0, ds0, p0, q0, hargs, rfl, rfl, h0, r0⟩ := trodAll_cons hA
  obtain ⟨v1, vs1, d1, ds1, p1, q1, rfl, rfl, rfl, h1, r1⟩ := trodAll_cons r0
  obtain ⟨rfl, rfl, rfl⟩ := trodAll_nil r1
  obtain rfl : args = #[v0, v1] := by cases args; simp_all
  obtain ⟨s, rfl, _, _, _⟩ := Go.ChangeMaps.open_string Tryd.underlying9 (hval 0 _ v0 rfl rfl) h0
  obtain ⟨l, hl⟩ := p_lines (hval 1 _ v1 rfl rfl) h1
  exact keeps_walk s l v1 m W hl hm
end Go.Proofs.YtejfienogljboaaDoor
