/- HeapAlike. -/
import Derived.Test.YtndakhnplnamdaaHeapQ
namespace Go.Proofs.Ytndakhnplnamdaa
open Go.RowKit

theorem AlikePost.self {w w' : World} {n : Nat} {ob : Nat → ObjD} {l : Nat} {vs : Nat → Vl} {e : Ending} (h : AlikePost w (AlikeP n n ob ob l l vs vs) e w') : e = .returned (.bool true) ∧ Below w.heap.size w w' := by
  obtain ⟨b, rfl, h1, h2⟩ := h
  have : b = true := h1.2 (alike_self n ob l vs)
  subst this
  exact ⟨rfl, h2⟩
/-- the state of the loops -/
structure AlkSt (w wr : World) (n f l q : Nat) (va : Nat → Vl) (c : Value) : Prop where
  o : Owns wr w.heap.size 25 2 c q (valC fun j => shiftV n f (va j))
  b : Below w.heap.size w wr
theorem AlkSt.push {w wr w1 w2 : World} {n f l q : Nat} {va : Nat → Vl} {c v' : Value} (h : AlkSt w wr n f l q va c) (hb : Below wr.heap.size wr w1) {s : ByteArray} {x : Int} (hg : (w1.alloc (Obj.cells #[.string s, .int .i64 x] 25)).grownBy w2 c.ownBlock)
    (hr : w2.ownsRow w.heap.size 25 2 v' (q + 1) (rowC 2 q (valC fun j => shiftV n f (va j)) ++ [.string s, .int .i64 x])) (hx : shiftV n f (va q) = (s, x)) : AlkSt w w2 n f l (q + 1) va v' := by
  refine ⟨Owns.push hr (fun _ _ _ _ => rfl) (by simp [List.range_succ, valC, hx]), ?_⟩
  have h1 := h.b.trans (hb.mono h.b.size)
  exact (h1.alloc h1.size _).grown hg (by have := h1.size; simp; omega) fun g e => (h.o.lt g e).1
theorem AlkSt.next {w wr w1 : World} {n f l q : Nat} {va : Nat → Vl} {c : Value} (h : AlkSt w wr n f l q va c) (hb : Below wr.heap.size wr w1) : AlkSt w w1 n f l q va c := ⟨h.o.next hb (Nat.le_refl _), h.b.trans (hb.mono h.b.size)⟩
def okEach (n : Nat) (v : Vl) : Prop := isRef v.1 = true → leadsB n v = true ∨ v.2 = 0

set_option maxRecDepth 100000 in
set_option maxHeartbeats 4000000 in
theorem alk_few (ph pa pk pb pf : Option Addr) (n ch l ca m ck l' cb f cf : Nat) (ob oq oF : Nat → ObjD) (hm1 : l ≤ 9223372036854775807) (hm2 : l' ≤ 9223372036854775807)
    (hno : fewB n ob = false ∨ (fewB n ob = true ∧ fewB m oq = false) ∨ (fewB n ob = true ∧ fewB m oq = true ∧ fewB f oF = false) ∨ (fewB n ob = true ∧ fewB m oq = true ∧ fewB f oF = true ∧ 50 < l) ∨ (fewB n ob = true ∧ fewB m oq = true ∧ fewB f oF = true ∧ l ≤ 50 ∧ 50 < l'))
    (w : World) (hO : Objs w ph n ob) (hQ : Objs w pk m oq) (hF : Objs w pf f oF) :
    Calls Try.prog 4 #[.slice ph n ch, .slice pa l ca, .slice pk m ck, .slice pb l' cb, .slice pf f cf] w (AllTrue w) := by
  have H1 := fun w1 (hb : Below w.heap.size w w1) => few_val ph n ch ob w1 (hO.below hb)
  have H2 := fun w1 (hb : Below w.heap.size w w1) => few_val pk m ck oq w1 (hQ.below hb)
  have H3 := fun w1 (hb : Below w.heap.size w w1) => few_val pf f cf oF w1 (hF.below hb)
  clear hO hQ hF
  generalize fewB n ob = b1 at *
  generalize fewB m oq = b2 at *
  generalize fewB f oF = b3 at *
  rcases hno with rfl | ⟨rfl, rfl⟩ | ⟨rfl, rfl, rfl⟩ | ⟨rfl, rfl, rfl, hl⟩ | ⟨rfl, rfl, rfl, hl, hl'⟩
  all_goals
    go_enter Try.func4, Try.ntmps4
    go_wp2_with fail
    refine (awake_val _).mono ?_
    rintro e w1 ⟨rfl, hB⟩
    go_wp2_with fail
    refine (H1 _ hB).mono ?_
    rintro e w2 ⟨rfl, rfl⟩
    go_wp2_with fail
    try
      refine (H2 _ hB).mono ?_
      rintro e w2 ⟨rfl, rfl⟩
      go_wp2_with fail
    try
      refine (H3 _ hB).mono ?_
      rintro e w2 ⟨rfl, rfl⟩
      go_wp2_with fail
    refine (awake_val _).mono ?_
    rintro e w2 ⟨rfl, hb⟩
    have hB2 := bthen hB hb
    clear hb hB H1 H2 H3
    go_wp2
    go_ret
    exact ⟨rfl, hB2⟩

set_option maxRecDepth 100000 in
set_option maxHeartbeats 8000000 in
theorem alk_main (ph pa pk pb pf : Option Addr) (n ch l ca m ck l' cb f cf : Nat) (hz : pf = none → f = 0 ∧ cf = 0) (ob oq oF : Nat → ObjD) (va vb : Nat → Vl) (h1 : fewB n ob = true) (h2 : fewB m oq = true) (h3 : fewB f oF = true) (hl : l ≤ 50) (hl' : l' ≤ 50)
    (w : World) (hO : Objs w ph n ob) (hQ : Objs w pk m oq) (hF : Objs w pf f oF) (hA : Vals w pa l va) (hBv : Vals w pb l' vb) :
    Calls Try.prog 4 #[.slice ph n ch, .slice pa l ca, .slice pk m ck, .slice pb l' cb, .slice pf f cf] w (AllTrue w) := by
  obtain ⟨i1, hj, hy0, hy1, hy2⟩ := info_parts infoV
  have H1 := fun w1 (hb : Below w.heap.size w w1) => few_val ph n ch ob w1 (hO.below hb)
  have H2 := fun w1 (hb : Below w.heap.size w w1) => few_val pk m ck oq w1 (hQ.below hb)
  have H3 := fun w1 (hb : Below w.heap.size w w1) => few_val pf f cf oF w1 (hF.below hb)
  rw [h1] at H1
  rw [h2] at H2
  rw [h3] at H3
  obtain ⟨hn, hno⟩ := few_n h1
  obtain ⟨hm, -⟩ := few_n h2
  obtain ⟨hf, -⟩ := few_n h3
  have HS := fun w1 (hb : Below w.heap.size w w1) => (alike_val (ch := ch) (ck := ch) (ca := ca) (cu := ca) hn (by omega) ob ob va va w1 (hO.below hb) (hO.below hb) (hA.below hb) (hA.below hb)).mono fun _ _ h => AlikePost.self h
  clear h1 h2 h3
  go_enter Try.func4, Try.ntmps4
  go_wp2_with fail
  refine (awake_val _).mono ?_
  rintro e w1 ⟨rfl, hB⟩
  go_wp2_with fail
  refine (H1 _ hB).mono ?_
  rintro e w2 ⟨rfl, rfl⟩
  go_wp2_with fail
  refine (H2 _ hB).mono ?_
  rintro e w2 ⟨rfl, rfl⟩
  go_wp2_with fail
  refine (H3 _ hB).mono ?_
  rintro e w2 ⟨rfl, rfl⟩
  clear H1 H2 H3
  go_wp2
  go_loopw [12, 13] (fun c i wr => ∃ q : Nat, q ≤ l ∧ i = .int .i64 (q : Int) ∧ AlkSt w wr n f l q va c ∧ ∀ j, j < q → okEach n (va j)) (fun _ i _ => l - (intOf i).toNat)
  case atStart => exact ⟨0, Nat.zero_le _, rfl, ⟨Owns.nil, hB⟩, fun j hj => absurd hj (Nat.not_lt_zero j)⟩
  case round =>
    clear hB
    obtain ⟨q, hq, rfl, hS, hok⟩ := hrel
    obtain ⟨pc, cc, rfl⟩ := hS.o.slice
    by_cases hlt : q < l
    · obtain ⟨Bv, ov, rfl, hBv', hcv⟩ := (hA.below hS.b).at' (by omega)
      obtain ⟨e0, e1⟩ := hcv q hlt
      have G : ∀ w1, Below wr.heap.size wr w1 → w1.cell? ⟨Bv, ov + q * 2, none⟩ = some (.string (va q).1) ∧ w1.cell? ⟨Bv, ov + q * 2 + 1, none⟩ = some (.int .i64 (va q).2) := fun w1 hb => by
        rw [hb.cell hBv', hb.cell hBv']
        exact ⟨e0, e1⟩
      clear hcv
      have hgen : ∃ ss xx, va q = (ss, xx) := ⟨_, _, rfl⟩
      obtain ⟨ss, xx, hsx⟩ := hgen
      rw [hsx] at e0 e1 G
      dsimp only at e0 e1 G
      have hgen : ∃ st xt, shiftV n f (ss, xx) = (st, xt) := ⟨_, _, rfl⟩
      obtain ⟨st, xt, hsh⟩ := hgen
      have HC := shifted_val ph n ch f (by omega) (by omega) ss xx st xt hsh
      have hcase : (ss.toList == [114, 101, 102]) = false ∨ ((ss.toList == [114, 101, 102]) = true ∧ leadsB n (ss, xx) = true) ∨ ((ss.toList == [114, 101, 102]) = true ∧ leadsB n (ss, xx) = false ∧ (xx != 0) = false) ∨ ((ss.toList == [114, 101, 102]) = true ∧ leadsB n (ss, xx) = false ∧ (xx != 0) = true) := by
        cases (ss.toList == [114, 101, 102])
        · exact .inl rfl
        · cases leadsB n (ss, xx)
          · cases (xx != 0)
            · exact .inr (.inr (.inl ⟨rfl, rfl, rfl⟩))
            · exact .inr (.inr (.inr ⟨rfl, rfl, rfl⟩))
          · exact .inr (.inl ⟨rfl, rfl⟩)
      have hP := fun (w1 w2 : World) v' (hb : Below wr.heap.size wr w1) hg hr => AlkSt.push hS hb (w2 := w2) (v' := v') (s := st) (x := xt) hg hr (by rw [hsx]; exact hsh)
      have hO1 := fun w1 (hb : Below wr.heap.size wr w1) => (hS.o.next hb (Nat.le_refl _))
      have hb0 := hS.b
      clear hsh
      rcases hcase with r1 | ⟨r1, r2⟩ | ⟨r1, r2, r3⟩ | ⟨r1, r2, r3⟩
      · have hokq : okEach n (va q) := fun h => by rw [hsx] at h; unfold isRef at h; rw [r1] at h; cases h
        go_wp2_with fail
        refine (HC _).mono ?_
        rintro e w3 ⟨rfl, hb3⟩
        have hb13 : Below wr.heap.size wr w3 := hb3
        have hown := hO1 _ hb13
        have hrow : w3.ownsRow w.heap.size 25 2 (.slice pc q cc) q (rowC 2 q (valC fun j => shiftV n f (va j))) := hown
        have hsz : w.heap.size ≤ w3.heap.size := Nat.le_trans hb0.size hb13.size
        have hnews := val_news w3 st xt
        clear hb3 G HC hown e0 e1
        go_wp2_with (at_builtin; refine wpList_append_own _ rfl _ _ 23 rfl w.heap.size 25 i1 _ 2 24 Try.underlying23 hj hy0 hy1 hy2 rfl (by decide) _ _ _ rfl (hrow.alloc _) ⟨w3.heap.size, 0, none⟩ 1 1 [.string st, .int .i64 xt] rfl rfl hnews (val_one st xt) ?d41 ?d51 ?d61 ?_)
        case d41 => unfold maxLen; omega
        case d51 => omega
        case d61 => simp; omega
        intro v2 w4 hown2 hg2 _
        have hS2 := hP _ _ _ hb13 hg2 hown2
        obtain ⟨pc2, cc2, rfl⟩ := own_sl hown2
        clear hP hO1 hown2 hg2 hrow hnews hb13 hS
        go_wp2
        go_roundw
        case rel => exact ⟨q + 1, by omega, by go_num, hS2, fun j hj => by
          by_cases ej : j = q
          · subst ej; exact hokq
          · exact hok j (by omega)⟩
        case measure => simp [intOf]; omega
      · have hokq : okEach n (va q) := fun h => by rw [hsx]; exact .inl r2
        have HL := leads_val ph n ch (by omega) ss xx true r2
        clear r2
        go_wp2_with fail
        refine (HL _).mono ?_
        rintro e w1 ⟨rfl, hb1⟩
        obtain ⟨e0, e1⟩ := G _ hb1
        clear HL
        go_wp2_with fail
        refine (HC _).mono ?_
        rintro e w3 ⟨rfl, hb3⟩
        have hb13 : Below wr.heap.size wr w3 := hb1.trans (hb3.mono hb1.size)
        have hown := hO1 _ hb13
        have hrow : w3.ownsRow w.heap.size 25 2 (.slice pc q cc) q (rowC 2 q (valC fun j => shiftV n f (va j))) := hown
        have hsz : w.heap.size ≤ w3.heap.size := Nat.le_trans hb0.size hb13.size
        have hnews := val_news w3 st xt
        clear hb3 G HC hown e0 e1
        go_wp2_with (at_builtin; refine wpList_append_own _ rfl _ _ 23 rfl w.heap.size 25 i1 _ 2 24 Try.underlying23 hj hy0 hy1 hy2 rfl (by decide) _ _ _ rfl (hrow.alloc _) ⟨w3.heap.size, 0, none⟩ 1 1 [.string st, .int .i64 xt] rfl rfl hnews (val_one st xt) ?d42 ?d52 ?d62 ?_)
        case d42 => unfold maxLen; omega
        case d52 => omega
        case d62 => simp; omega
        intro v2 w4 hown2 hg2 _
        have hS2 := hP _ _ _ hb13 hg2 hown2
        obtain ⟨pc2, cc2, rfl⟩ := own_sl hown2
        clear hP hO1 hown2 hg2 hrow hnews hb13 hS
        go_wp2
        go_roundw
        case rel => exact ⟨q + 1, by omega, by go_num, hS2, fun j hj => by
          by_cases ej : j = q
          · subst ej; exact hokq
          · exact hok j (by omega)⟩
        case measure => simp [intOf]; omega
      · have hokq : okEach n (va q) := fun h => by rw [hsx]; exact .inr (by simpa using r3)
        have HL := leads_val ph n ch (by omega) ss xx false r2
        clear r2
        go_wp2_with fail
        refine (HL _).mono ?_
        rintro e w1 ⟨rfl, hb1⟩
        obtain ⟨e0, e1⟩ := G _ hb1
        clear HL
        go_wp2_with fail
        refine (HC _).mono ?_
        rintro e w3 ⟨rfl, hb3⟩
        have hb13 : Below wr.heap.size wr w3 := hb1.trans (hb3.mono hb1.size)
        have hown := hO1 _ hb13
        have hrow : w3.ownsRow w.heap.size 25 2 (.slice pc q cc) q (rowC 2 q (valC fun j => shiftV n f (va j))) := hown
        have hsz : w.heap.size ≤ w3.heap.size := Nat.le_trans hb0.size hb13.size
        have hnews := val_news w3 st xt
        clear hb3 G HC hown e0 e1
        go_wp2_with (at_builtin; refine wpList_append_own _ rfl _ _ 23 rfl w.heap.size 25 i1 _ 2 24 Try.underlying23 hj hy0 hy1 hy2 rfl (by decide) _ _ _ rfl (hrow.alloc _) ⟨w3.heap.size, 0, none⟩ 1 1 [.string st, .int .i64 xt] rfl rfl hnews (val_one st xt) ?d43 ?d53 ?d63 ?_)
        case d43 => unfold maxLen; omega
        case d53 => omega
        case d63 => simp; omega
        intro v2 w4 hown2 hg2 _
        have hS2 := hP _ _ _ hb13 hg2 hown2
        obtain ⟨pc2, cc2, rfl⟩ := own_sl hown2
        clear hP hO1 hown2 hg2 hrow hnews hb13 hS
        go_wp2
        go_roundw
        case rel => exact ⟨q + 1, by omega, by go_num, hS2, fun j hj => by
          by_cases ej : j = q
          · subst ej; exact hokq
          · exact hok j (by omega)⟩
        case measure => simp [intOf]; omega
      · have HL := leads_val ph n ch (by omega) ss xx false r2
        clear r2
        go_wp2_with fail
        refine (HL _).mono ?_
        rintro e w1 ⟨rfl, hb1⟩
        obtain ⟨e0, e1⟩ := G _ hb1
        have hBx := hb0.trans (hb1.mono hb0.size)
        clear HL hb1 hP hO1 hS
        go_wp2_with fail
        refine (HS _ hBx).mono ?_
        rintro e w2 ⟨rfl, hb2⟩
        have hBy := bthen hBx hb2
        clear hb2 HS hBx
        go_wp2
        go_ret
        exact ⟨rfl, hBy⟩
    · obtain rfl : l = q := by omega
      go_wp2
      obtain ⟨wo, rfl⟩ : ∃ wo : World, wo = wr := ⟨_, rfl⟩
      go_loopw [14] (fun i wr => ∃ q : Nat, q ≤ n ∧ i = .int .i64 (q : Int) ∧ AlkSt w wr n f l l va (.slice pc l cc) ∧ ∀ a, a < q → ∀ j, j < (ob a).l → okEach n ((ob a).vs j)) (fun i _ => n - (intOf i).toNat)
      case atStart => exact ⟨0, Nat.zero_le _, rfl, hS, fun a ha => absurd ha (Nat.not_lt_zero a)⟩
      case round =>
        clear hS
        obtain ⟨q, hq, rfl, hS, hok2⟩ := hrel
        by_cases hlt : q < n
        · obtain ⟨Bh, oh, rfl, hBh, hch⟩ := hO.at' (by omega)
          obtain ⟨c0, c1⟩ := hch q hlt
          have G1 : ∀ w1, Below w.heap.size w w1 → w1.cell? ⟨Bh, oh + q * 2 + 1, none⟩ = some (.slice (ob q).p (ob q).l (ob q).k) := fun w1 hb => by rw [hb.cell hBh]; exact c1
          have hlq := hno q hlt
          clear hch c0 c1
          have g1 := G1 _ hS.b
          go_wp2
          clear g1
          obtain ⟨wo2, rfl⟩ : ∃ wo2 : World, wo2 = wr := ⟨_, rfl⟩
          go_loopw [15] (fun k wk => ∃ kk : Nat, kk ≤ (ob q).l ∧ k = .int .i64 (kk : Int) ∧ AlkSt w wk n f l l va (.slice pc l cc) ∧ ∀ j, j < kk → okEach n ((ob q).vs j)) (fun k _ => (ob q).l - (intOf k).toNat)
          case atStart => exact ⟨0, Nat.zero_le _, rfl, hS, fun j hj => absurd hj (Nat.not_lt_zero j)⟩
          case round =>
            clear hS
            obtain ⟨kk, hkk, rfl, hS, hok3⟩ := hrel
            have g1 := G1 _ hS.b
            by_cases hlk : kk < (ob q).l
            · obtain ⟨Bv, ov, hpv, hBv', hcv⟩ := ((hO.v q hlt).below hS.b).at' (by omega)
              obtain ⟨e0, e1⟩ := hcv kk hlk
              rw [hpv] at g1 G1
              have G : ∀ w1, Below wr.heap.size wr w1 → w1.cell? ⟨Bv, ov + kk * 2, none⟩ = some (.string ((ob q).vs kk).1) ∧ w1.cell? ⟨Bv, ov + kk * 2 + 1, none⟩ = some (.int .i64 ((ob q).vs kk).2) := fun w1 hb => by
                rw [hb.cell hBv', hb.cell hBv']
                exact ⟨e0, e1⟩
              have GG : ∀ w1, Below wr.heap.size wr w1 → w1.cell? ⟨Bh, oh + q * 2 + 1, none⟩ = some (.slice (some ⟨Bv, ov, none⟩) (ob q).l (ob q).k) := fun w1 hb => G1 _ (hS.b.trans (hb.mono hS.b.size))
              clear hcv hpv hBv'
              have hgen : ∃ ss xx, (ob q).vs kk = (ss, xx) := ⟨_, _, rfl⟩
              obtain ⟨ss, xx, hsx⟩ := hgen
              rw [hsx] at e0 e1 G
              dsimp only at e0 e1 G
              have hcase : (ss.toList == [114, 101, 102]) = false ∨ ((ss.toList == [114, 101, 102]) = true ∧ leadsB n (ss, xx) = true) ∨ ((ss.toList == [114, 101, 102]) = true ∧ leadsB n (ss, xx) = false ∧ (xx != 0) = false) ∨ ((ss.toList == [114, 101, 102]) = true ∧ leadsB n (ss, xx) = false ∧ (xx != 0) = true) := by
                cases (ss.toList == [114, 101, 102])
                · exact .inl rfl
                · cases leadsB n (ss, xx)
                  · cases (xx != 0)
                    · exact .inr (.inr (.inl ⟨rfl, rfl, rfl⟩))
                    · exact .inr (.inr (.inr ⟨rfl, rfl, rfl⟩))
                  · exact .inr (.inl ⟨rfl, rfl⟩)
              have hlen := hlq
              have hstep : okEach n (ss, xx) → ∀ j, j < kk + 1 → okEach n ((ob q).vs j) := fun h j hj => by
                by_cases ej : j = kk
                · subst ej; rw [hsx]; exact h
                · exact hok3 j (by omega)
              have hsx' := Lib.hid hsx
              clear hsx hok3
              generalize (ob q).l = lq at *
              generalize (ob q).k = kq at *
              rcases hcase with r1 | ⟨r1, r2⟩ | ⟨r1, r2, r3⟩ | ⟨r1, r2, r3⟩
              · have hs2 := hstep (fun h => by unfold isRef at h; rw [r1] at h; cases h)
                clear hstep
                go_wp2
                go_roundw
                case rel => exact ⟨kk + 1, by omega, by go_num, hS, hs2⟩
                case measure => simp [intOf]; omega
              · have hs2 := hstep (fun _ => .inl r2)
                have HL := leads_val (some ⟨Bh, oh, none⟩) n ch (by omega) ss xx true r2
                clear hstep r2
                go_wp2_with fail
                refine (HL _).mono ?_
                rintro e w1 ⟨rfl, hb1⟩
                obtain ⟨e0, e1⟩ := G _ hb1
                have g2 := GG _ hb1
                have hS2 := hS.next hb1
                clear HL hb1 hS
                go_wp2
                go_roundw
                case rel => exact ⟨kk + 1, by omega, by go_num, hS2, hs2⟩
                case measure => simp [intOf]; omega
              · have hs2 := hstep (fun _ => .inr (by simpa using r3))
                have HL := leads_val (some ⟨Bh, oh, none⟩) n ch (by omega) ss xx false r2
                clear hstep r2
                go_wp2_with fail
                refine (HL _).mono ?_
                rintro e w1 ⟨rfl, hb1⟩
                obtain ⟨e0, e1⟩ := G _ hb1
                have g2 := GG _ hb1
                have hS2 := hS.next hb1
                clear HL hb1 hS
                go_wp2
                go_roundw
                case rel => exact ⟨kk + 1, by omega, by go_num, hS2, hs2⟩
                case measure => simp [intOf]; omega
              · have HL := leads_val (some ⟨Bh, oh, none⟩) n ch (by omega) ss xx false r2
                clear hstep r2
                go_wp2_with fail
                refine (HL _).mono ?_
                rintro e w1 ⟨rfl, hb1⟩
                obtain ⟨e0, e1⟩ := G _ hb1
                have g2 := GG _ hb1
                have hBx := (hS.next hb1).b
                clear HL hb1 hS
                go_wp2_with fail
                refine (HS _ hBx).mono ?_
                rintro e w2 ⟨rfl, hb2⟩
                have hBy := bthen hBx hb2
                clear hb2 HS hBx
                go_wp2
                go_ret
                exact ⟨rfl, hBy⟩
            · obtain rfl : kk = (ob q).l := by omega
              go_wp2
              go_roundw
              case rel => exact ⟨q + 1, by omega, by go_num, hS, fun a ha j hj => by
                by_cases ea : a = q
                · subst ea; exact hok3 j hj
                · exact hok2 a (by omega) j hj⟩
              case measure => simp [intOf]; omega
        · obtain rfl : n = q := by omega
          obtain ⟨o1, hb0⟩ := hS
          have cm : ∀ w', Below wr.heap.size wr w' → Vals w' pc l (fun j => shiftV n f (va j)) := fun w' hb => (Owns.vals o1 (by omega) (fun j hj => by
            have h1 := hA.r j hj
            unfold shiftV
            split
            · rename_i hl
              have := leads_in hl
              dsimp only
              omega
            · exact h1)).below hb
          clear o1
          have HE1 := fun w1 (hb : Below w.heap.size w w1) => alike_val (ch := ch) (ck := ck) (ca := ca) (cu := cb) hn (by omega) ob oq va vb w1 (hO.below hb) (hQ.below hb) (hA.below hb) (hBv.below hb)
          have HE2 := fun w1 (hb : Below w.heap.size w w1) => alike_val (ch := ck) (ck := ch) (ca := cb) (cu := ca) hm (by omega) oq ob vb va w1 (hQ.below hb) (hO.below hb) (hBv.below hb) (hA.below hb)
          have HM : ∀ w1, Below w.heap.size w w1 → Calls Try.prog 22 #[.slice ph n ch, .slice pf f cf] w1 (MovedPost w1 n f ob) := fun w1 hb => by
            cases pf with
            | none =>
              obtain ⟨h0, rfl⟩ := hz rfl
              exact moved_nil ph n ch f ob h0 (by omega) (fun i hi => by have := hno i hi; omega) (by omega) w1 (hO.below hb)
            | some af => exact moved_some ph n ch af f cf ob oF (by omega) (fun i hi => by have := hno i hi; omega) (by omega) w1 (hO.below hb) (hF.below hb)
          have HA5 := fun w1 pM kM oM (hb : Below w.heap.size w w1) (hM : Objs w1 pM (f + n) oM) (hc : Vals w1 pc l (fun j => shiftV n f (va j))) => alike_val (ch := ch) (ck := kM) (ca := ca) (cu := cc) hn (by omega) ob oM va (fun j => shiftV n f (va j)) w1 (hO.below hb) hM (hA.below hb) hc
          clear hO hQ hF hA hBv hz
          go_wp2_with fail
          refine (HS _ hb0).mono ?_
          rintro e w1 ⟨rfl, hb1⟩
          have hB1 := bthen hb0 hb1
          have cm1 := fun w' (hb : Below w1.heap.size w1 w') => cm w' (bthen hb1 hb)
          clear HS hb0 hb1 cm
          go_wp2_with fail
          refine (HE1 _ hB1).mono ?_
          rintro e w2 ⟨b1, rfl, hi1, hb2⟩
          have hB2 := bthen hB1 hb2
          have cm2 := fun w' (hb : Below w2.heap.size w2 w') => cm1 w' (bthen hb2 hb)
          clear HE1 hB1 hb2 cm1
          go_wp2_with fail
          refine (HE2 _ hB2).mono ?_
          rintro e w3 ⟨b2, rfl, hi2, hb3⟩
          have hB3 := bthen hB2 hb3
          have cm3 := fun w' (hb : Below w3.heap.size w3 w') => cm2 w' (bthen hb3 hb)
          have heq : b1 = b2 := by
            have := (hi1.trans (alike_comm n m ob oq l l' va vb)).trans hi2.symm
            cases b1 <;> cases b2 <;> simp at this ⊢
          subst heq
          have hbb : (b1 == b1) = true := by simp
          clear HE2 hB2 hb3 cm2 hi1 hi2
          go_wp2_with fail
          refine (HM _ hB3).mono ?_
          rintro e w4 ⟨pM, kM, oM, rfl, hM, hT, hb4⟩
          have hB4 := bthen hB3 hb4
          have cm4 := cm3 w4 hb4
          clear HM hB3 hb4 cm3
          go_wp2_with fail
          refine (HA5 _ _ _ _ hB4 hM cm4).mono ?_
          rintro e w5 ⟨b5, rfl, hi5, hb5⟩
          have hB5 := bthen hB4 hb5
          have e5 : b5 = true := hi5.2 (alike_moved hok hok2 (fun j _ => rfl) (fun i hi => by
            obtain ⟨a1, a2, a3⟩ := hT i hi
            exact ⟨a1, a2, a3⟩))
          subst e5
          clear HA5 hB4 hb5 hi5 cm4 hM hT
          go_wp2
          go_ret
          exact ⟨rfl, hB5⟩
section
open Go.ChangeShapes Go.WideShapes Go.ChangeAt Go.Deep
variable (H : Type) (enc : TypeId × Value → H) (W : World) (base : Nat) (args : Array Value) (ds gs : List (DataW H)) (before : List MemPlace)
theorem heapAlike_all (hval : ∀ (j : Nat) t v, Try.f4.params[j]? = some t → args[j]? = some v → Value.okWide Try.prog W .any base t v)
    (hW : DataW.Whole enc Try.prog Try.f4.params.toList Rows.heapAlikeSpec.vars false W args.toList ds gs before) :
    Calls Try.prog 4 args W fun e w' => e = .returned (.bool true) ∧ Below W.heap.size W w' := by
  obtain ⟨p, q, hA0, hV, rfl, _, _⟩ := hW
  have hA : DataW.TrodAll enc Try.prog W 0 (fun _ => true) true Try.f4.params.toList args.toList ds p := hA0
  rw [Try.params4] at hA hval
  obtain ⟨v0, vs0, d0, ds0, p0, q0, hargs, rfl, rfl, h0, r0⟩ := trodAll_cons hA
  obtain ⟨v1, vs1, d1, ds1, p1, q1, rfl, rfl, rfl, h1, r1⟩ := trodAll_cons r0
  obtain ⟨v2, vs2, d2, ds2, p2, q2, rfl, rfl, rfl, h2, r2⟩ := trodAll_cons r1
  obtain ⟨v3, vs3, d3, ds3, p3, q3, rfl, rfl, rfl, h3, r3⟩ := trodAll_cons r2
  obtain ⟨v4, vs4, d4, ds4, p4, q4, rfl, rfl, rfl, h4, r4⟩ := trodAll_cons r3
  obtain ⟨rfl, rfl, rfl⟩ := trodAll_nil r4
  obtain rfl : args = #[v0, v1, v2, v3, v4] := by cases args; simp_all
  obtain ⟨ph, n, ch, ob, rfl, hO, -⟩ := p_objs (hval 0 _ v0 rfl rfl) h0
  obtain ⟨pa, l, ca, va, rfl, hVa, -⟩ := p_vals (hval 1 _ v1 rfl rfl) h1
  obtain ⟨pk, m, ck, oq, rfl, hQ, -⟩ := p_objs (hval 2 _ v2 rfl rfl) h2
  obtain ⟨pb, l', cb, vb, rfl, hVb, -⟩ := p_vals (hval 3 _ v3 rfl rfl) h3
  obtain ⟨pf, f, cf, oF, rfl, hF, hz⟩ := p_objs (hval 4 _ v4 rfl rfl) h4
  cases f1 : fewB n ob
  · exact alk_few ph pa pk pb pf n ch l ca m ck l' cb f cf ob oq oF hVa.m hVb.m (.inl f1) W hO hQ hF
  cases f2 : fewB m oq
  · exact alk_few ph pa pk pb pf n ch l ca m ck l' cb f cf ob oq oF hVa.m hVb.m (.inr (.inl ⟨f1, f2⟩)) W hO hQ hF
  cases f3 : fewB f oF
  · exact alk_few ph pa pk pb pf n ch l ca m ck l' cb f cf ob oq oF hVa.m hVb.m (.inr (.inr (.inl ⟨f1, f2, f3⟩))) W hO hQ hF
  by_cases hl : l ≤ 50
  · by_cases hl' : l' ≤ 50
    · exact alk_main ph pa pk pb pf n ch l ca m ck l' cb f cf hz ob oq oF va vb f1 f2 f3 hl hl' W hO hQ hF hVa hVb
    · exact alk_few ph pa pk pb pf n ch l ca m ck l' cb f cf ob oq oF hVa.m hVb.m (.inr (.inr (.inr (.inr ⟨f1, f2, f3, hl, by omega⟩)))) W hO hQ hF
  · exact alk_few ph pa pk pb pf n ch l ca m ck l' cb f cf ob oq oF hVa.m hVb.m (.inr (.inr (.inr (.inl ⟨f1, f2, f3, by omega⟩)))) W hO hQ hF
end
end Go.Proofs.Ytndakhnplnamdaa
