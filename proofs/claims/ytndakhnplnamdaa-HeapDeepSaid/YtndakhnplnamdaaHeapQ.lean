/- HeapKeeps. -/
import Derived.Test.YtndakhnplnamdaaHeapP
namespace Go.Proofs.Ytndakhnplnamdaa
open Go.RowKit

/-- a heap of the call's own, whatever its values are -/
structure HeapShape (w : World) (B : Nat) (v : Value) (n : Nat) (ob : Nat → ObjD) : Prop where
  row : Owns w B 41 2 v n (objC ob)
  vals : ∀ i, i < n → ∃ vs : Nat → Vl, Owns w B 25 2 (slV (ob i)) (ob i).l (valC vs)
section
variable {w w' : World} {B n : Nat} {v : Value} {ob : Nat → ObjD}
theorem HeapOwn.shape (h : HeapOwn w B v n n ob) : HeapShape w B v n ob := ⟨h.row, fun i hi => ⟨_, h.vals i hi⟩⟩
theorem HeapShape.next {C : Nat} (h : HeapShape w B v n ob) (hb : Below C w w') (hC : w.heap.size ≤ C) : HeapShape w' B v n ob := ⟨h.row.next hb hC, fun i hi => by
  obtain ⟨f, hf⟩ := h.vals i hi
  exact ⟨f, hf.next hb hC⟩⟩
theorem Owns.setVal {g j l' : Nat} {v : Value} {vs : Nat → Vl} (h : Owns w B 25 2 v l' (valC vs)) (s : ByteArray) (x : Int) : ∃ us : Nat → Vl, Owns ((w.setCell ⟨g, j * 2, none⟩ (.string s)).setCell ⟨g, j * 2 + 1, none⟩ (.int .i64 x)) B 25 2 v l' (valC us) := by
  have g0 := grown_setCell w g (j * 2) (.string s)
  have g1 := grown_setCell (w.setCell ⟨g, j * 2, none⟩ (.string s)) g (j * 2 + 1) (.int .i64 x)
  by_cases e : v.ownBlock = some g
  · rcases h.2 with ⟨rfl, _⟩ | ⟨g', cap, cur, rfl, _⟩
    · cases e
    · obtain rfl : g' = g := by simpa [Value.ownBlock] using e
      have a0 := h.set (by decide : 0 < 2) (i := j) (.string s)
      rw [Nat.add_zero] at a0
      have a1 := a0.set (by decide : 1 < 2) (i := j) (.int .i64 x)
      refine ⟨fun i => if i = j then (s, x) else vs i, a1.congr fun a b _ hb => ?_⟩
      rcases (by omega : b = 0 ∨ b = 1) with rfl | rfl
      · by_cases e2 : a = j <;> simp [valC, e2]
      · by_cases e2 : a = j <;> simp [valC, e2]
  · exact ⟨vs, (h.kept g0 (.inr e)).kept g1 (.inr e)⟩
theorem HeapShape.set {g : Nat} (h : HeapShape w B v n ob) (ht : Typ w g 25) (j : Nat) (s : ByteArray) (x : Int) : HeapShape ((w.setCell ⟨g, j * 2, none⟩ (.string s)).setCell ⟨g, j * 2 + 1, none⟩ (.int .i64 x)) B v n ob := by
  have g0 := grown_setCell w g (j * 2) (.string s)
  have g1 := grown_setCell (w.setCell ⟨g, j * 2, none⟩ (.string s)) g (j * 2 + 1) (.int .i64 x)
  have hn := ht.notRowC (by decide) h.row
  exact ⟨(h.row.kept g0 (.inr hn)).kept g1 (.inr hn), fun i hi => by
    obtain ⟨f, hf⟩ := h.vals i hi
    exact hf.setVal s x⟩
end
/-- two heaps of the call's own, that are spoilt bit by bit -/
structure Spoil (w wr : World) (va vb : Value) (na nb : Nat) (oa ob : Nat → ObjD) : Prop where
  a : HeapShape wr w.heap.size va na oa
  b : HeapShape wr w.heap.size vb nb ob
  k : Below w.heap.size w wr
section
variable {w wr w' : World} {va vb : Value} {na nb : Nat} {oa ob : Nat → ObjD}
theorem Spoil.swap (h : Spoil w wr va vb na nb oa ob) : Spoil w wr vb va nb na ob oa := ⟨h.b, h.a, h.k⟩
/-- value j of object i of the first, where it lies -/
theorem Spoil.at (h : Spoil w wr va vb na nb oa ob) {i : Nat} (hi : i < na) : ∃ g cu, va = .slice (some ⟨g, 0, none⟩) na cu ∧ wr.cell? ⟨g, i * 2 + 1, none⟩ = some (.slice (oa i).p (oa i).l (oa i).k) := by
  obtain ⟨g, cu, e, _, _, _, hc, _⟩ := h.a.row.at (by omega)
  exact ⟨g, cu, e, hc i 1 hi (by decide)⟩
theorem Spoil.put (h : Spoil w wr va vb na nb oa ob) {i : Nat} (hi : i < na) {j : Nat} (hj : j < (oa i).l) : ∃ g k s x, slV (oa i) = .slice (some ⟨g, 0, none⟩) (oa i).l k ∧ wr.cell? ⟨g, j * 2, none⟩ = some (.string s) ∧ wr.cell? ⟨g, j * 2 + 1, none⟩ = some (.int .i64 x) ∧ wr.frozen? ⟨g, j * 2, none⟩ = false ∧ wr.frozen? ⟨g, j * 2 + 1, none⟩ = false ∧
    ∀ (s : ByteArray) (x : Int), Spoil w ((wr.setCell ⟨g, j * 2, none⟩ (.string s)).setCell ⟨g, j * 2 + 1, none⟩ (.int .i64 x)) va vb na nb oa ob := by
  obtain ⟨vs, hv⟩ := h.a.vals i hi
  obtain ⟨g, cu, e, hg, hlt, _, hc, hf⟩ := hv.at (by omega)
  have ht : Typ wr g 25 := hv.typ (by rw [e]; rfl)
  have c0 := hc j 0 hj (by decide)
  have c1 := hc j 1 hj (by decide)
  exact ⟨g, cu, _, _, e, c0, c1, hf _, hf _, fun s x => ⟨h.a.set ht j s x, h.b.set ht j s x, (h.k.setCell (p := ⟨g, j * 2, none⟩) hg _).setCell (p := ⟨g, j * 2 + 1, none⟩) hg _⟩⟩
end
theorem loadV_nought (n : Nat) (ob : Nat → ObjD) : loadV n ob ({ data := #[] }, 0) 0 = ((.empty, 0), false) := by
  unfold loadV
  rw [if_neg]
  rintro ⟨h, _⟩
  have := (leads_in h).1
  dsimp only at this
  omega

set_option maxHeartbeats 4000000 in
theorem keeps_few (ph : Option Addr) (n ch : Nat) (ob : Nat → ObjD) (pa : Option Addr) (l ca : Nat) (s : ByteArray) (x : Int) (t : ByteArray) (y : Int) (hm : l ≤ 9223372036854775807) (hno : fewB n ob = false ∨ (fewB n ob = true ∧ 50 < l)) (w : World) (hO : Objs w ph n ob) :
    Calls Try.prog 7 #[.slice ph n ch, .slice pa l ca, .agg #[.string s, .int .i64 x], .agg #[.string t, .int .i64 y]] w (AllTrue w) := by
  have HF := fun w1 (hb : Below w.heap.size w w1) => few_val ph n ch ob w1 (hO.below hb)
  rcases hno with hf | ⟨hf, hl⟩
  all_goals
    rw [hf] at HF
    clear hf
    go_enter Try.func7, Try.ntmps7
    go_wp2_with fail
    refine (awake_val _).mono ?_
    rintro e w1 ⟨rfl, hb⟩
    obtain ⟨-, -, hB⟩ := boxes2 (c1 := [_, _]) (c2 := [_, _]) hb
    clear hb
    go_wp2_with fail
    refine (HF _ hB).mono ?_
    rintro e w2 ⟨rfl, rfl⟩
    go_wp2_with fail
    refine (awake_val _).mono ?_
    rintro e w2 ⟨rfl, hb⟩
    have hB2 := bthen hB hb
    clear hb
    go_wp2
    go_ret
    exact ⟨rfl, hB2⟩

set_option maxHeartbeats 4000000 in
theorem keeps_some (ph : Option Addr) (n ch : Nat) (ob : Nat → ObjD) (a : Addr) (l ca : Nat) (vs : Nat → Vl) (s : ByteArray) (x : Int) (t : ByteArray) (y : Int) (hy : -9223372036854775808 ≤ y ∧ y ≤ 9223372036854775807) (hf : fewB n ob = true) (hl50 : l ≤ 50) (w : World) (hO : Objs w ph n ob) (hV : Vals w (some a) l vs) :
    Calls Try.prog 7 #[.slice ph n ch, .slice (some a) l ca, .agg #[.string s, .int .i64 x], .agg #[.string t, .int .i64 y]] w (AllTrue w) := by
  obtain ⟨i1, hj, hy0, hy1, hy2⟩ := info_parts infoV
  obtain ⟨hn, hl⟩ := few_n hf
  have HF := fun w1 (hb : Below w.heap.size w w1) => few_val ph n ch ob w1 (hO.below hb)
  rw [hf] at HF
  have hl3 : ∀ i, i < n → (ob i).l ≤ 1000 := fun i hi => by have := hl i hi; omega
  have HN := fun w1 (hb : Below w.heap.size w w1) => new_val ph n ch ob hn hl3 { data := #[80] } (some a) l ca vs (by omega) w1 (hO.below hb) (hV.below hb)
  have HS := fun w1 (hb : Below w.heap.size w w1) => store_val ph n ch ob (by omega) hl3 s x 0 t y w1 (hO.below hb)
  have HRS := fun w1 (hb : Below w.heap.size w w1) => rstore_val ph n ch ob (by omega) hl3 { data := #[] } 0 0 t y hy w1 (hO.below hb)
  rw [loadV_nought, loadV_no (loadV_nought n ob)] at HRS
  have hl2 : ∀ i, i < n → (putOb n ob (s, x) 0 (t, y) i).l ≤ 20 := fun i hi => by rw [(putOb_c _ _ _ _ _ _).2]; exact hl i hi
  clear hf
  go_enter Try.func7, Try.ntmps7
  go_wp2_with fail
  refine (awake_val _).mono ?_
  rintro e w1 ⟨rfl, hb⟩
  obtain ⟨xo, xv, hB⟩ := boxes2 (c1 := [_, _]) (c2 := [_, _]) hb
  clear hb
  go_wp2_with fail
  refine (HF _ hB).mono ?_
  rintro e w2 ⟨rfl, rfl⟩
  clear HF
  have v0 := xv.c 0 _ rfl
  have v1 := xv.c 1 _ rfl
  go_wp2_with fail
  refine (HRS _ hB).mono ?_
  rintro e w2 ⟨pw, kw, ow, rfl, Ow, hSw, hb⟩
  have hB2 := bthen hB hb
  have xo := xo.nx hb
  have xv := xv.nx hb
  clear hb hB HRS v0 v1
  have hnews := (hV.below hB2).news
  go_wp2_with (at_builtin; refine wpList_append_own _ rfl _ _ 23 rfl w2.heap.size 25 i1 _ 2 24 Try.underlying23 hj hy0 hy1 hy2 rfl (by decide) _ _ _ rfl (World.ownsRow_nil _ _ _ _) a l ca (rowC 2 l (valC vs)) rfl ?c1 hnews ?c3 ?c4 ?c5 ?c6 ?_)
  case c1 => exact rowC_len _ _ _
  case c3 => exact rowC_one fun i k _ _ => valC_one vs i k
  case c4 => unfold maxLen; omega
  case c5 => omega
  case c6 => exact Nat.le_refl _
  intro vm w3 hown hg _
  obtain ⟨pm, km, rfl⟩ := own_sl hown
  have hb23 : Below w2.heap.size w2 w3 := (Below.refl _ _).grown hg (Nat.le_refl _) (fun k e => by cases e)
  have hM : Vals w3 pm l vs := Owns.vals hown hV.m hV.r
  have hB3 := bthen hB2 hb23
  have Ow := Ow.below hb23
  have xo := xo.nx hb23
  have xv := xv.nx hb23
  clear hnews hown hg hb23 hB2
  go_wp2_with fail
  refine (HN _ hB3).mono ?_
  rintro e w4 ⟨va, oa, rfl, hHa, hSa, hac, hal, hav, hb⟩
  have hB4 := bthen hB3 hb
  have xo := xo.nx hb
  have xv := xv.nx hb
  obtain ⟨pA, kA, rfl⟩ := hHa.row.slice
  have sha := hHa.shape
  have hb34 := hb
  have hla : ∀ i, i < n + 1 → (oa i).l ≤ 50 := fun i hi => by
    by_cases e : i = n
    · subst e; omega
    · rw [hSa.l (by omega)]; have := hl i (by omega); omega
  clear hb HN hHa hSa hac hal hav
  have o0 := fun o => (xo.al o).c 0 _ rfl
  have o1 := fun o => (xo.al o).c 1 _ rfl
  have v0 := fun o => (xv.al o).c 0 _ rfl
  have v1 := fun o => (xv.al o).c 1 _ rfl
  go_wp2_with fail
  refine (HS _ (hB4.alloc hB4.size _)).mono ?_
  rintro e w5 ⟨vb, oc, rfl, hHb, hSb, hb⟩
  have hb' := (boxes1 (c1 := [_, _]) hb).2
  have hb35 := bthen hb34 hb'
  have shb : HeapShape w5 w3.heap.size vb n oc := by
    have := hHb.mono (B' := w3.heap.size) (by have := hb34.size; simp; omega)
    exact this.shape
  obtain ⟨pC, kC, rfl⟩ := hHb.row.slice
  have hsp : Spoil w3 w5 (.slice pA (n + 1) kA) (.slice pC n kC) (n + 1) n oa oc := ⟨sha.next hb' (Nat.le_refl _), shb, hb35⟩
  have hlb : ∀ i, i < n → (oc i).l ≤ 20 := fun i hi => by rw [hSb.l hi]; exact hl2 i hi
  clear hb hb' hb35 shb hHb hSb sha hb34 HS hB4 o0 o1 v0 v1 xo xv hl2
  go_wp2
  go_loopw [16] (fun i wr => ∃ q : Nat, q ≤ n + 1 ∧ i = .int .i64 (q : Int) ∧ Spoil w3 wr (.slice pA (n + 1) kA) (.slice pC n kC) (n + 1) n oa oc) (fun i _ => n + 1 - (intOf i).toNat)
  case atStart => exact ⟨0, Nat.zero_le _, rfl, hsp⟩
  case round =>
    clear hsp
    obtain ⟨q, hq, rfl, hP⟩ := hrel
    by_cases hlt : q < n + 1
    · have hlq := hla q hlt
      go_wp2
      obtain ⟨wo, rfl⟩ : ∃ wo : World, wo = wr := ⟨_, rfl⟩
      go_loopw [17] (fun k wk => ∃ kk : Nat, kk ≤ (oa q).l ∧ k = .int .i64 (kk : Int) ∧ Spoil w3 wk (.slice pA (n + 1) kA) (.slice pC n kC) (n + 1) n oa oc) (fun k _ => (oa q).l - (intOf k).toNat)
      case atStart => exact ⟨0, Nat.zero_le _, rfl, hP⟩
      case round =>
        clear hP
        obtain ⟨kk, hkk, rfl, hP⟩ := hrel
        obtain ⟨g, cu, eg, c1⟩ := hP.at hlt
        simp only [Value.slice.injEq, true_and] at eg
        obtain ⟨rfl, rfl⟩ := eg
        by_cases hlk : kk < (oa q).l
        · obtain ⟨g2, k2, s2, x2, e2, d0, d1, f0, f1, hPut⟩ := hP.put hlt hlk
          unfold slV at e2
          rw [e2] at c1
          have hPut := hPut { data := #[115, 112, 111, 105, 108, 116] } 0
          clear hP e2
          generalize (oa q).l = lq at *
          go_wp2
          go_roundw
          case rel => exact ⟨kk + 1, by omega, by go_num, hPut⟩
          case measure => simp [intOf]; omega
        · obtain rfl : kk = (oa q).l := by omega
          go_wp2
          go_roundw
          case rel => exact ⟨q + 1, by omega, by go_num, hP⟩
          case measure => simp [intOf]; omega
    · obtain rfl : q = n + 1 := by omega
      go_wp2
      obtain ⟨wo, rfl⟩ : ∃ wo : World, wo = wr := ⟨_, rfl⟩
      go_loopw [18] (fun i wr => ∃ q : Nat, q ≤ n ∧ i = .int .i64 (q : Int) ∧ Spoil w3 wr (.slice pC n kC) (.slice pA (n + 1) kA) n (n + 1) oc oa) (fun i _ => n - (intOf i).toNat)
      case atStart => exact ⟨0, Nat.zero_le _, rfl, hP.swap⟩
      case round =>
        clear hP
        obtain ⟨q, hq, rfl, hP⟩ := hrel
        by_cases hlt : q < n
        · have hlq := hlb q hlt
          go_wp2
          obtain ⟨wo2, rfl⟩ : ∃ wo2 : World, wo2 = wr := ⟨_, rfl⟩
          go_loopw [19] (fun k wk => ∃ kk : Nat, kk ≤ (oc q).l ∧ k = .int .i64 (kk : Int) ∧ Spoil w3 wk (.slice pC n kC) (.slice pA (n + 1) kA) n (n + 1) oc oa) (fun k _ => (oc q).l - (intOf k).toNat)
          case atStart => exact ⟨0, Nat.zero_le _, rfl, hP⟩
          case round =>
            clear hP
            obtain ⟨kk, hkk, rfl, hP⟩ := hrel
            obtain ⟨g, cu, eg, c1⟩ := hP.at hlt
            simp only [Value.slice.injEq, true_and] at eg
            obtain ⟨rfl, rfl⟩ := eg
            by_cases hlk : kk < (oc q).l
            · obtain ⟨g2, k2, s2, x2, e2, d0, d1, f0, f1, hPut⟩ := hP.put hlt hlk
              unfold slV at e2
              rw [e2] at c1
              have hPut := hPut { data := #[115, 112, 111, 105, 108, 116] } 0
              clear hP e2
              generalize (oc q).l = lq at *
              go_wp2
              go_roundw
              case rel => exact ⟨kk + 1, by omega, by go_num, hPut⟩
              case measure => simp [intOf]; omega
            · obtain rfl : kk = (oc q).l := by omega
              go_wp2
              go_roundw
              case rel => exact ⟨q + 1, by omega, by go_num, hP⟩
              case measure => simp [intOf]; omega
        · obtain rfl : q = n := by omega
          have hBr := hB3.trans (hP.k.mono hB3.size)
          have HSa := same_yes ph pw q ch kw ob ow hSw wr (hO.below hBr) (Ow.below hP.k)
          go_wp2_with fail
          refine HSa.mono ?_
          rintro e w6 ⟨rfl, hb⟩
          have hB6 := bthen hBr hb
          have hM6 := (hM.below hP.k).below hb
          have HV6 := samevals_yes (some a) pm l ca km vs vs (fun _ _ => rfl) w6 (hV.below hB6) hM6
          clear hP hBr HSa hb hM6
          go_wp2_with fail
          refine HV6.mono ?_
          rintro e w7 ⟨rfl, hb⟩
          have hB7 := bthen hB6 hb
          clear HV6 hb hB6
          go_wp2
          go_ret
          exact ⟨rfl, hB7⟩
set_option maxHeartbeats 4000000 in
theorem keeps_nil (ph : Option Addr) (n ch : Nat) (ob : Nat → ObjD) (l : Nat) (h0 : l = 0) (vs : Nat → Vl) (s : ByteArray) (x : Int) (t : ByteArray) (y : Int) (hy : -9223372036854775808 ≤ y ∧ y ≤ 9223372036854775807) (hf : fewB n ob = true) (hl50 : l ≤ 50) (w : World) (hO : Objs w ph n ob) (hV : Vals w none l vs) :
    Calls Try.prog 7 #[.slice ph n ch, .slice none l 0, .agg #[.string s, .int .i64 x], .agg #[.string t, .int .i64 y]] w (AllTrue w) := by
  obtain ⟨i1, hj, hy0, hy1, hy2⟩ := info_parts infoV
  obtain ⟨hn, hl⟩ := few_n hf
  have HF := fun w1 (hb : Below w.heap.size w w1) => few_val ph n ch ob w1 (hO.below hb)
  rw [hf] at HF
  have hl3 : ∀ i, i < n → (ob i).l ≤ 1000 := fun i hi => by have := hl i hi; omega
  have HN := fun w1 (hb : Below w.heap.size w w1) => new_val ph n ch ob hn hl3 { data := #[80] } none l 0 vs (by omega) w1 (hO.below hb) (hV.below hb)
  have HS := fun w1 (hb : Below w.heap.size w w1) => store_val ph n ch ob (by omega) hl3 s x 0 t y w1 (hO.below hb)
  have HRS := fun w1 (hb : Below w.heap.size w w1) => rstore_val ph n ch ob (by omega) hl3 { data := #[] } 0 0 t y hy w1 (hO.below hb)
  rw [loadV_nought, loadV_no (loadV_nought n ob)] at HRS
  have hl2 : ∀ i, i < n → (putOb n ob (s, x) 0 (t, y) i).l ≤ 20 := fun i hi => by rw [(putOb_c _ _ _ _ _ _).2]; exact hl i hi
  clear hf
  have H0 := Lib.hid h0
  clear h0
  go_enter Try.func7, Try.ntmps7
  go_wp2_with fail
  refine (awake_val _).mono ?_
  rintro e w1 ⟨rfl, hb⟩
  obtain ⟨xo, xv, hB⟩ := boxes2 (c1 := [_, _]) (c2 := [_, _]) hb
  clear hb
  go_wp2_with fail
  refine (HF _ hB).mono ?_
  rintro e w2 ⟨rfl, rfl⟩
  clear HF
  have v0 := xv.c 0 _ rfl
  have v1 := xv.c 1 _ rfl
  go_wp2_with fail
  refine (HRS _ hB).mono ?_
  rintro e w2 ⟨pw, kw, ow, rfl, Ow, hSw, hb⟩
  have hB2 := bthen hB hb
  have xo := xo.nx hb
  have xv := xv.nx hb
  clear hb hB HRS v0 v1
  have hM : Vals w2 none l vs := hV.below hB2
  have hB3 := hB2
  go_wp2_with (at_builtin; refine wpList_append_own_none rfl _ _ 23 rfl 0 25 i1 2 Try.underlying23 hj _ 0 [] rfl (World.ownsRow_nil _ _ _ _) (by have h0 := H0.out; subst h0; rfl) ?_)
  obtain ⟨w3, rfl⟩ : ∃ w3 : World, w3 = w2 := ⟨_, rfl⟩
  go_wp2_with fail
  refine (HN _ hB3).mono ?_
  rintro e w4 ⟨va, oa, rfl, hHa, hSa, hac, hal, hav, hb⟩
  have hB4 := bthen hB3 hb
  have xo := xo.nx hb
  have xv := xv.nx hb
  obtain ⟨pA, kA, rfl⟩ := hHa.row.slice
  have sha := hHa.shape
  have hb34 := hb
  have hla : ∀ i, i < n + 1 → (oa i).l ≤ 50 := fun i hi => by
    by_cases e : i = n
    · subst e; omega
    · rw [hSa.l (by omega)]; have := hl i (by omega); omega
  clear hb HN hHa hSa hac hal hav
  have o0 := fun o => (xo.al o).c 0 _ rfl
  have o1 := fun o => (xo.al o).c 1 _ rfl
  have v0 := fun o => (xv.al o).c 0 _ rfl
  have v1 := fun o => (xv.al o).c 1 _ rfl
  go_wp2_with fail
  refine (HS _ (hB4.alloc hB4.size _)).mono ?_
  rintro e w5 ⟨vb, oc, rfl, hHb, hSb, hb⟩
  have hb' := (boxes1 (c1 := [_, _]) hb).2
  have hb35 := bthen hb34 hb'
  have shb : HeapShape w5 w3.heap.size vb n oc := by
    have := hHb.mono (B' := w3.heap.size) (by have := hb34.size; simp; omega)
    exact this.shape
  obtain ⟨pC, kC, rfl⟩ := hHb.row.slice
  have hsp : Spoil w3 w5 (.slice pA (n + 1) kA) (.slice pC n kC) (n + 1) n oa oc := ⟨sha.next hb' (Nat.le_refl _), shb, hb35⟩
  have hlb : ∀ i, i < n → (oc i).l ≤ 20 := fun i hi => by rw [hSb.l hi]; exact hl2 i hi
  clear hb hb' hb35 shb hHb hSb sha hb34 HS hB4 o0 o1 v0 v1 xo xv hl2
  go_wp2
  go_loopw [16] (fun i wr => ∃ q : Nat, q ≤ n + 1 ∧ i = .int .i64 (q : Int) ∧ Spoil w3 wr (.slice pA (n + 1) kA) (.slice pC n kC) (n + 1) n oa oc) (fun i _ => n + 1 - (intOf i).toNat)
  case atStart => exact ⟨0, Nat.zero_le _, rfl, hsp⟩
  case round =>
    clear hsp
    obtain ⟨q, hq, rfl, hP⟩ := hrel
    by_cases hlt : q < n + 1
    · have hlq := hla q hlt
      go_wp2
      obtain ⟨wo, rfl⟩ : ∃ wo : World, wo = wr := ⟨_, rfl⟩
      go_loopw [17] (fun k wk => ∃ kk : Nat, kk ≤ (oa q).l ∧ k = .int .i64 (kk : Int) ∧ Spoil w3 wk (.slice pA (n + 1) kA) (.slice pC n kC) (n + 1) n oa oc) (fun k _ => (oa q).l - (intOf k).toNat)
      case atStart => exact ⟨0, Nat.zero_le _, rfl, hP⟩
      case round =>
        clear hP
        obtain ⟨kk, hkk, rfl, hP⟩ := hrel
        obtain ⟨g, cu, eg, c1⟩ := hP.at hlt
        simp only [Value.slice.injEq, true_and] at eg
        obtain ⟨rfl, rfl⟩ := eg
        by_cases hlk : kk < (oa q).l
        · obtain ⟨g2, k2, s2, x2, e2, d0, d1, f0, f1, hPut⟩ := hP.put hlt hlk
          unfold slV at e2
          rw [e2] at c1
          have hPut := hPut { data := #[115, 112, 111, 105, 108, 116] } 0
          clear hP e2
          generalize (oa q).l = lq at *
          go_wp2
          go_roundw
          case rel => exact ⟨kk + 1, by omega, by go_num, hPut⟩
          case measure => simp [intOf]; omega
        · obtain rfl : kk = (oa q).l := by omega
          go_wp2
          go_roundw
          case rel => exact ⟨q + 1, by omega, by go_num, hP⟩
          case measure => simp [intOf]; omega
    · obtain rfl : q = n + 1 := by omega
      go_wp2
      obtain ⟨wo, rfl⟩ : ∃ wo : World, wo = wr := ⟨_, rfl⟩
      go_loopw [18] (fun i wr => ∃ q : Nat, q ≤ n ∧ i = .int .i64 (q : Int) ∧ Spoil w3 wr (.slice pC n kC) (.slice pA (n + 1) kA) n (n + 1) oc oa) (fun i _ => n - (intOf i).toNat)
      case atStart => exact ⟨0, Nat.zero_le _, rfl, hP.swap⟩
      case round =>
        clear hP
        obtain ⟨q, hq, rfl, hP⟩ := hrel
        by_cases hlt : q < n
        · have hlq := hlb q hlt
          go_wp2
          obtain ⟨wo2, rfl⟩ : ∃ wo2 : World, wo2 = wr := ⟨_, rfl⟩
          go_loopw [19] (fun k wk => ∃ kk : Nat, kk ≤ (oc q).l ∧ k = .int .i64 (kk : Int) ∧ Spoil w3 wk (.slice pC n kC) (.slice pA (n + 1) kA) n (n + 1) oc oa) (fun k _ => (oc q).l - (intOf k).toNat)
          case atStart => exact ⟨0, Nat.zero_le _, rfl, hP⟩
          case round =>
            clear hP
            obtain ⟨kk, hkk, rfl, hP⟩ := hrel
            obtain ⟨g, cu, eg, c1⟩ := hP.at hlt
            simp only [Value.slice.injEq, true_and] at eg
            obtain ⟨rfl, rfl⟩ := eg
            by_cases hlk : kk < (oc q).l
            · obtain ⟨g2, k2, s2, x2, e2, d0, d1, f0, f1, hPut⟩ := hP.put hlt hlk
              unfold slV at e2
              rw [e2] at c1
              have hPut := hPut { data := #[115, 112, 111, 105, 108, 116] } 0
              clear hP e2
              generalize (oc q).l = lq at *
              go_wp2
              go_roundw
              case rel => exact ⟨kk + 1, by omega, by go_num, hPut⟩
              case measure => simp [intOf]; omega
            · obtain rfl : kk = (oc q).l := by omega
              go_wp2
              go_roundw
              case rel => exact ⟨q + 1, by omega, by go_num, hP⟩
              case measure => simp [intOf]; omega
        · obtain rfl : q = n := by omega
          have hBr := hB3.trans (hP.k.mono hB3.size)
          have HSa := same_yes ph pw q ch kw ob ow hSw wr (hO.below hBr) (Ow.below hP.k)
          go_wp2_with fail
          refine HSa.mono ?_
          rintro e w6 ⟨rfl, hb⟩
          have hB6 := bthen hBr hb
          have hM6 := (hM.below hP.k).below hb
          have HV6 := samevals_yes none none l 0 0 vs vs (fun _ _ => rfl) w6 (hV.below hB6) hM6
          have HV7 : Calls Try.prog 23 #[.slice none l 0, .slice none 0 0] w6 fun e w' => e = .returned (.bool true) ∧ Below w6.heap.size w6 w' := by
            have h0 := H0.out
            subst h0
            exact HV6
          clear hP hBr HSa hb hM6 HV6
          go_wp2_with fail
          with_reducible refine HV7.mono ?_
          rintro e w7 ⟨rfl, hb⟩
          have hB7 := bthen hB6 hb
          clear HV7 hb hB6
          go_wp2
          go_ret
          exact ⟨rfl, hB7⟩
section
open Go.ChangeShapes Go.WideShapes Go.ChangeAt Go.Deep
variable (H : Type) (enc : TypeId × Value → H) (W : World) (base : Nat) (args : Array Value) (ds gs : List (DataW H)) (before : List MemPlace)
theorem heapKeeps_all (hval : ∀ (j : Nat) t v, Try.f7.params[j]? = some t → args[j]? = some v → Value.okWide Try.prog W .any base t v)
    (hW : DataW.Whole enc Try.prog Try.f7.params.toList Rows.heapKeepsSpec.vars false W args.toList ds gs before) :
    Calls Try.prog 7 args W fun e w' => e = .returned (.bool true) ∧ Below W.heap.size W w' := by
  obtain ⟨p, q, hA0, hV, rfl, _, _⟩ := hW
  have hA : DataW.TrodAll enc Try.prog W 0 (fun _ => true) true Try.f7.params.toList args.toList ds p := hA0
  rw [Try.params7] at hA hval
  obtain ⟨v0, vs0, d0, ds0, p0, q0, hargs, rfl, rfl, h0, r0⟩ := trodAll_cons hA
  obtain ⟨v1, vs1, d1, ds1, p1, q1, rfl, rfl, rfl, h1, r1⟩ := trodAll_cons r0
  obtain ⟨v2, vs2, d2, ds2, p2, q2, rfl, rfl, rfl, h2, r2⟩ := trodAll_cons r1
  obtain ⟨v3, vs3, d3, ds3, p3, q3, rfl, rfl, rfl, h3, r3⟩ := trodAll_cons r2
  obtain ⟨rfl, rfl, rfl⟩ := trodAll_nil r3
  obtain rfl : args = #[v0, v1, v2, v3] := by cases args; simp_all
  obtain ⟨ph, n, ch, ob, rfl, hO, hz⟩ := p_objs (hval 0 _ v0 rfl rfl) h0
  obtain ⟨pa, l, ca, vs, rfl, hVs, hz1⟩ := p_vals (hval 1 _ v1 rfl rfl) h1
  obtain ⟨s, x, rfl, -⟩ := open_val (hval 2 _ v2 rfl rfl) h2
  obtain ⟨t, y, rfl, hy⟩ := open_val (hval 3 _ v3 rfl rfl) h3
  by_cases hf : fewB n ob = true
  · by_cases hl : l ≤ 50
    · cases pa with
      | none =>
        obtain ⟨h0, rfl⟩ := hz1 rfl
        exact keeps_nil ph n ch ob l h0 vs s x t y hy hf hl W hO hVs
      | some a => exact keeps_some ph n ch ob a l ca vs s x t y hy hf hl W hO hVs
    · exact keeps_few ph n ch ob pa l ca s x t y hVs.m (.inr ⟨hf, by omega⟩) W hO
  · exact keeps_few ph n ch ob pa l ca s x t y hVs.m (.inl (by simpa using hf)) W hO
end
end Go.Proofs.Ytndakhnplnamdaa
