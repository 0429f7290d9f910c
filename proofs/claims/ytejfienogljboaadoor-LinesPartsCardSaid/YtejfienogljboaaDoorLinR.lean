/- LinesParts. -/
import Derived.Test.YtejfienogljboaaDoorLinQ
namespace Go.Proofs.YtejfienogljboaaDoor
open Go.RowKit

/-- 'append(s, x...)', whatever x is -/
theorem wpList_append_any {P : Program} {w : World} {ops : Array Oper} {rest : List Oper} {o : Oper} {a : Act} {Q : Exit → Act → World → Prop} (hgd : o.guard = none) (s x : Operand) (t : TypeId)
    (ho : o.op = .call { callee := .builtin .append, args := #[s, x], argTypes := #[t, t] })
    (base : Nat) (e : TypeId) (i : TypeInfo) (z : Value) (size bytes : Nat) (ht : P.underlying t = some (.slice e)) (hi : P.info? e = some i) (hz : i.zero = some z)
    (hsize : i.size = size) (hby : i.bytes = bytes) (hzs : z.cells.size = size) (hsz : 0 < size)
    (v : Value) (n : Nat) (xs : List Value) (hs : a.eval s = v) (hown : w.ownsRow base e size v n xs)
    (pa : Option Addr) (m c : Nat) (news : List Value) (hx : a.eval x = .slice pa m c) (hnone : pa = none → m = 0 ∧ c = 0) (hl : news.length = m * size)
    (hnews : ∀ ad, pa = some ad → ∀ j u, news[j]? = some u → w.cell? (ad.add j) = some u) (h1 : ∀ u ∈ news, u.oneCell' = true)
    (h63 : n + m ≤ maxLen) (hbytes : (n + m) * bytes ≤ 140737488355328) (hbase : base ≤ w.heap.size)
    (h : ∀ v' w', w'.ownsRow base e size v' (n + m) (xs ++ news) → w.grownBy w' v.ownBlock → wpList P ops Q rest (a.put o.dst v') w') : wpList P ops Q (o :: rest) a w := by
  cases pa with
  | none =>
    obtain ⟨rfl, rfl⟩ := hnone rfl
    have hn : news = [] := List.length_eq_zero_iff.1 (by rw [hl]; simp)
    subst hn
    exact wpList_append_own_none hgd s x t ho base e i size ht hi v n xs hs hown hx (h v w (by simpa using hown) (grown_refl _ _))
  | some ad => exact wpList_append_own w hgd s x t ho base e i z size bytes ht hi hz hsize hby hzs hsz v n xs hs hown ad m c news hx hl (hnews ad rfl) h1 h63 hbytes hbase (fun v' w' k1 k2 _ => h v' w' k1 k2)

/-- lines, further on -/
def moved (k : Nat) (l : List LnI) : List LnI := l.map fun x => (x.1 + (k : Int), x.2)
theorem moved_ints (k : Nat) (l : List Ln) : ints (shiftL k l) = moved k (ints l) := by
  simp [ints, shiftL, moved]
theorem src_cell {w : World} {p : Option Addr} {l : List LnI} {ns : Nat → Int} {us : Nat → Value} (h : Src w p l ns us) : ∀ ad, p = some ad → ∀ j u, (rowC 2 l.length (ivC ns us))[j]? = some u → w.cell? (ad.add j) = some u := by
  intro ad hp j u hu
  obtain ⟨i, k, hi, hk, rfl, rfl⟩ := rowC_mem hu
  obtain ⟨a, h1, h2, h3⟩ := h.c i hi
  rw [hp] at h1
  obtain rfl : ad = a := by simpa using h1
  match k, hk with
  | 0, _ => exact h2
  | 1, _ =>
    have e : ad.add (i * 2 + 1) = (ad.add (i * 2)).add 1 := (Go.Deep.add_add ad (i * 2) 1).symm
    rw [e]
    exact h3
theorem src_one {w : World} {p : Option Addr} {l : List LnI} {ns : Nat → Int} {us : Nat → Value} (h : Src w p l ns us) : ∀ u ∈ rowC 2 l.length (ivC ns us), u.oneCell' = true := by
  refine rowC_one fun i k hi hk => ?_
  obtain ⟨x, hx⟩ : ∃ x, l[i]? = some x := ⟨l[i], by simp [hi]⟩
  obtain ⟨p, c, e, _⟩ := (h.r i x hx).2
  match k, hk with
  | 0, _ => rfl
  | 1, _ => show (us i).oneCell' = true
            rw [e]; rfl

set_option maxHeartbeats 4000000 in
theorem linesParts_walk (s t : ByteArray) (hs : s.size ≤ 140737488351232) (ht : t.size ≤ 140737488351232) (w : World) (m : Int) (hm : w.cell? ⟨0, 0, none⟩ = some (.int .i64 m)) : Calls Tryd.prog 7 #[.string s, .string t] w fun e w' => e = .returned (.bool true) ∧ Below w.heap.size w w' := by
  obtain ⟨i1, hj, hy0, hy1, hy2⟩ := info_parts infoR
  have h1 := split_any s m w hm
  go_enter Tryd.func7, Tryd.ntmps7
  go_wp2_with fail
  refine h1.mono ?_
  rintro e w1 ⟨pu, n, cu, at', why, rfl, hb1, hD⟩
  have hm1 := (hb1.cell (cells_lt hm)).trans hm
  have h2 := split_any t m w1 hm1
  clear h1 hm
  go_wp2_with fail
  refine h2.mono ?_
  rintro e w2 ⟨pu2, n2, cu2, at2, why2, rfl, hb2, hD2⟩
  have hm2 := (hb2.cell (cells_lt hm1)).trans hm1
  have hb12 := bthen hb1 hb2
  have hA := awake_val m w2 hm2
  have hA2 := fun w3 (h : Below w2.heap.size w2 w3) => awake_val m w3 ((h.cell (cells_lt hm2)).trans hm2)
  clear h2 hm1
  go_wp2_with fail
  refine hA.mono ?_
  rintro e w3 ⟨rfl, hb3⟩
  have hA3 := hA2 w3 hb3
  have hb13 := bthen hb12 hb3
  clear hA hA2 hb12
  rcases hD with ⟨hw, rfl, rfl, rfl, hat⟩ | ⟨rfl, rfl, hs4, l, rfl, hl, hrow⟩
  · have hw0 : (why : Int) ≠ 0 := by omega
    clear hw hat hm2 hD2
    go_wp2_with fail
    refine hA3.mono ?_
    rintro e w4 ⟨rfl, hb4⟩
    have hb14 := bthen hb13 hb4
    clear hA3 hb13 hb4
    go_wp2
    go_ret
    exact ⟨rfl, hb14⟩
  rcases hD2 with ⟨hw, rfl, rfl, rfl, hat⟩ | ⟨rfl, rfl, ht4, l2, rfl, hl2, hrow2⟩
  · have hw0 : (why2 : Int) ≠ 0 := by omega
    clear hw hat hm2
    go_wp2_with fail
    refine hA3.mono ?_
    rintro e w4 ⟨rfl, hb4⟩
    have hb14 := bthen hb13 hb4
    clear hA3 hb13 hb4
    go_wp2
    go_ret
    exact ⟨rfl, hb14⟩
  by_cases hbs : 30000 < s.size
  · have hbI : (30000 : Int) < (s.size : Int) := by omega
    clear hm2
    go_wp2_with fail
    refine hA3.mono ?_
    rintro e w4 ⟨rfl, hb4⟩
    have hb14 := bthen hb13 hb4
    clear hA3 hb13 hb4
    go_wp2
    go_ret
    exact ⟨rfl, hb14⟩
  have hbI : ¬ (30000 : Int) < (s.size : Int) := by omega
  by_cases hbt : 30000 < t.size
  · have hbI : (30000 : Int) < (t.size : Int) := by omega
    clear hm2
    go_wp2_with fail
    refine hA3.mono ?_
    rintro e w4 ⟨rfl, hb4⟩
    have hb14 := bthen hb13 hb4
    clear hA3 hb13 hb4
    go_wp2
    go_ret
    exact ⟨rfl, hb14⟩
  have htI : ¬ (30000 : Int) < (t.size : Int) := by omega
  have hm3 := (hb3.cell (cells_lt hm2)).trans hm2
  have hbd := lines_bnd hs4 hl
  have hbd2 := lines_bnd ht4 hl2
  have hx3 := ((hrow.next hb2 (Nat.le_refl _)).next hb3 (Nat.le_refl _)).at
  have hy3 := (hrow2.next hb3 (Nat.le_refl _)).at
  clear hA3 hb1 hb2 hb3 hm2 hrow hrow2
  go_wp2_with fail
  obtain ⟨wo, rfl⟩ : ∃ wo : World, wo = w3 := ⟨_, rfl⟩
  go_loopw [11, 12] (fun c i wr => ∃ q : Nat, q ≤ s.size ∧ i = .int .i64 (q : Int) ∧ c = .int .i64 (((s.data.toList.take q).count 10 : Nat) + 1 : Int) ∧ wr = wo) (fun _ i _ => s.size - (intOf i).toNat)
  case atStart => exact ⟨0, Nat.zero_le _, rfl, rfl, rfl⟩
  case round =>
    obtain ⟨q, hq, rfl, rfl, rfl⟩ := hrel
    have hcl := count_le (s.data.toList.take q)
    have hlt' : (s.data.toList.take q).length ≤ q := by simp; omega
    by_cases hend : q = s.size
    · subst hend
      rw [List.take_of_length_le (by simp)]
      rw [List.take_of_length_le (by simp)] at hcl
      have hsl : s.data.toList.length = s.size := by simp
      have hkk : s.data.toList.count 10 ≤ 30000 := by omega
      generalize hk : s.data.toList.count 10 = k at *
      have hB := back_valN (ints l) hbd.n _ _ hx3
      clear hlt' hcl
      go_wp2_with fail
      refine hB.mono ?_
      rintro e w4 ⟨v4, rfl, hb4, hr4, hn4⟩
      have hb14 := bthen hb13 hb4
      have hm4 := (hb4.cell (cells_lt hm3)).trans hm3
      have hy4 := hy3.next hb4 (Nat.le_refl _)
      obtain ⟨p4, c4, rfl, -⟩ := id hr4
      obtain ⟨-, ns, us, hS⟩ := src hr4
      have hlen : (ints l).length ≤ 4194305 := hbd.n
      have hlen2 : (ints l2).length ≤ 4194305 := hbd2.n
      have hnone : p4 = none → (ints l).length = 0 ∧ c4 = 0 := fun e => by subst e; exact hn4 _ _ rfl
      clear hB hb13 hb4 hx3 hy3 hr4 hn4 hm3
      rw [← ints_len l2] at hy4 ⊢
      go_wp2_with (at_builtin; refine wpList_append_any rfl _ _ 26 rfl w4.heap.size 41 i1 _ 2 32 Tryd.underlying26 hj hy0 hy1 hy2 rfl (by decide) _ _ _ rfl (World.ownsRow_nil _ _ _ _) p4 _ c4 (rowC 2 (ints l).length (ivC ns us)) rfl hnone (rowC_len _ _ _) (src_cell hS) (src_one hS) ?c1 ?c2 (Nat.le_refl _) ?_)
      case c1 => unfold maxLen; omega
      case c2 => omega
      intro v5 w5 hown hg
      have hO : Owns w5 w4.heap.size 41 2 v5 (ints l).length (ivC ns us) := by simpa [Owns] using hown
      have hb5 : Below w4.heap.size w4 w5 := (Below.refl w4.heap.size w4).grown hg (Nat.le_refl _) fun g e => by cases e
      obtain ⟨-, ns2, us2, hS2⟩ := src hy4
      obtain ⟨NS, hNS⟩ : ∃ NS : Nat → Int, NS = fun i => if i < (ints l).length then ns i else ns2 (i - (ints l).length) + ((k : Int) + 1) := ⟨_, rfl⟩
      obtain ⟨US, hUS⟩ : ∃ US : Nat → Value, US = fun i => if i < (ints l).length then us i else us2 (i - (ints l).length) := ⟨_, rfl⟩
      have hO0 : Owns w5 w4.heap.size 41 2 v5 ((ints l).length + 0) (ivC NS US) := hO.congr fun i j hi _ => by simp only [ivC, hNS, hUS, if_pos hi]
      have hN2 : ∀ q, NS ((ints l).length + q) = ns2 q + ((k : Int) + 1) := fun q => by rw [hNS]; dsimp only; rw [if_neg (by omega), Nat.add_sub_cancel_left]
      have hU2 : ∀ q, US ((ints l).length + q) = us2 q := fun q => by rw [hUS]; dsimp only; rw [if_neg (by omega), Nat.add_sub_cancel_left]
      have hfinal : ∀ wr v, Below w4.heap.size w4 wr → Owns wr w4.heap.size 41 2 v ((ints l).length + (ints l2).length) (ivC NS US) → LinesAt wr v (ints l ++ moved (k + 1) (ints l2)) := fun wr v hb ho => by
        have e : (ints l ++ moved (k + 1) (ints l2)).length = (ints l).length + (ints l2).length := by simp [moved]
        refine iv_at (ns := NS) (us := US) (by rw [e]; exact ho) fun i x hx => ?_
        by_cases hi : i < (ints l).length
        · rw [List.getElem?_append_left hi] at hx
          simp only [hNS, hUS, if_pos hi]
          exact ⟨(hS.r i x hx).1, (hS.r i x hx).2.next hb (Nat.le_refl _)⟩
        · rw [List.getElem?_append_right (by omega)] at hx
          simp only [hNS, hUS, if_neg hi]
          obtain ⟨y, hy, rfl⟩ : ∃ y, (ints l2)[i - (ints l).length]? = some y ∧ (y.1 + ((k + 1 : Nat) : Int), y.2) = x := by
            unfold moved at hx
            rw [List.getElem?_map] at hx
            exact Option.map_eq_some_iff.1 hx
          have := hS2.r _ y hy
          exact ⟨by rw [this.1]; push_cast; rfl, this.2.next hb (Nat.le_refl _)⟩
      have hnum : ∀ q, q < (ints l2).length → 0 ≤ ns2 q ∧ ns2 q ≤ 30001 := fun q hq => by
        have hR := goL_rise hl2
        rw [splitNL_len] at hR
        rw [ints_len] at hq
        have := hR.b l2[q] (by simp)
        have h2 := hS2.r q ((l2[q].1 : Int), l2[q].2) (by simp [ints, hq])
        have h3 := count_le t.data.toList
        have h4 : t.data.toList.length = t.size := by simp
        rw [h2.1]
        dsimp only
        omega
      clear hown hg hO hNS hUS hnone
      go_wp2_with fail
      obtain ⟨w6, rfl⟩ : ∃ w6 : World, w6 = w5 := ⟨_, rfl⟩
      go_loopw [13, 14] (fun o i wr => ∃ q : Nat, q ≤ (ints l2).length ∧ i = .int .i64 (q : Int) ∧ Below w4.heap.size w4 wr ∧ Owns wr w4.heap.size 41 2 o ((ints l).length + q) (ivC NS US)) (fun _ i _ => (ints l2).length - (intOf i).toNat)
      case atStart => exact ⟨0, Nat.zero_le _, rfl, hb5, hO0⟩
      case round =>
        obtain ⟨q, hq2, rfl, hb, ho⟩ := hrel
        obtain ⟨pu, ku, rfl⟩ := ho.slice
        by_cases hend : q = (ints l2).length
        · subst hend
          have hL := hfinal _ _ hb ho
          have hl3 := lines_parts hl hl2
          rw [hk] at hl3
          have hm5 := (hb.cell (cells_lt hm4)).trans hm4
          have hb15 := bthen hb14 hb
          have ht2 : (s ++ ⟨#[10]⟩ ++ t).data.toList = s.data.toList ++ 10 :: t.data.toList := by rw [append_data, append_data]; simp
          have hs3 : (s ++ ⟨#[10]⟩ ++ t).size ≤ 4194304 := by
            have h0 : (⟨#[10]⟩ : ByteArray).size = 1 := rfl
            rw [ByteArray.size_append, ByteArray.size_append, h0]
            omega
          rw [← ht2] at hl3
          have hbd3 := lines_bnd hs3 hl3
          have hS := split_yes (s ++ ⟨#[10]⟩ ++ t) hs3 hl3 m wr hm5
          have hint : ints (l ++ shiftL (k + 1) l2) = ints l ++ moved (k + 1) (ints l2) := by
            rw [← moved_ints]; simp [ints]
          rw [← hint] at hL
          clear hint
          generalize l ++ shiftL (k + 1) l2 = L3 at *
          clear hfinal hO0 ho hb hb14 hm4 hm5 hl3 ht2 hs3 hnum hN2 hU2 hb5 hS2
          go_wp2_with fail
          refine hS.mono ?_
          rintro e w8 ⟨pu8, cu8, rfl, hb8, hr8⟩
          have hb18 := bthen hb15 hb8
          have hL8 := hL.next hb8 (Nat.le_refl _)
          have hB := back_val _ hbd3.n _ _ hr8.at
          clear hS hb15 hb8 hL hr8
          go_wp2_with fail
          refine hB.mono ?_
          rintro e w9 ⟨v9, rfl, hb9, hr9⟩
          have hb19 := bthen hb18 hb9
          have hL9 := hL8.next hb9 (Nat.le_refl _)
          have hS := same_yes _ _ true _ _ _ hr9 hL9 rfl (fun _ => rfl) hbd3.w hbd3.n
          clear hB hb18 hb9 hL8
          go_wp2_with fail
          refine hS.mono ?_
          rintro e w10 ⟨rfl, hb10⟩
          have hb110 := bthen hb19 hb10
          clear hS
          go_wp2
          go_ret
          exact ⟨rfl, hb110⟩
        · have hlt : q < (ints l2).length := by omega
          have hltI : (q : Int) < ((ints l2).length : Int) := by omega
          obtain ⟨a, rfl, hc0, hc1⟩ := hS2.c q hlt
          obtain ⟨pw, cw, hu, -⟩ := (hS2.r q (ints l2)[q] (by simp [hlt])).2
          have ha : a.block < w4.heap.size := by rw [← add_block a (q * 2)]; exact cells_lt hc0
          have c0 : wr.drew.cell? (a.add (q * 2)) = some (.int .i64 (ns2 q)) := by rw [← hc0]; exact hb.drew.cell (by rw [add_block]; exact ha)
          have c1 : wr.drew.cell? ⟨(a.add (q * 2)).block, (a.add (q * 2)).off + 1, none⟩ = some (us2 q) := by rw [← hc1]; exact hb.drew.cell (by show (a.add (q * 2)).block < _; rw [add_block]; exact ha)
          have ho2 := ho.drew
          have hbd' := hb.drew
          have hNq := hN2 q
          have hUq := hU2 q
          have hfin : ∀ w2 v', (wr.drew.alloc (.cells #[.int .i64 (ns2 q + ((k : Int) + 1)), us2 q] 41)).grownBy w2 (Value.slice pu ((ints l).length + q) ku).ownBlock → w2.ownsRow w4.heap.size 41 2 v' ((ints l).length + q + 1) (rowC 2 ((ints l).length + q) (ivC NS US) ++ [.int .i64 (ns2 q + ((k : Int) + 1)), us2 q]) → Below w4.heap.size w4 w2 ∧ Owns w2 w4.heap.size 41 2 v' ((ints l).length + q + 1) (ivC NS US) := fun w2 v' hg hown =>
            ⟨(hbd'.alloc hbd'.size _).grown hg (by have := hb.size; simp; omega) fun g e => (ho.lt g e).1, Owns.push hown (fun _ _ _ _ => rfl) (by simp [List.range_succ, ivC, hNq, hUq])⟩
          have hbz : w4.heap.size ≤ wr.heap.size := hb.size
          have hnn := hnum q hlt
          have hwr : IntKind.i64.wrap (ns2 q + ((k : Int) + 1)) = ns2 q + ((k : Int) + 1) := by rw [IntKind.wrap_i64]; omega
          rw [hu] at c1 hfin
          clear hy4 hS hS2 hc0 hc1 ho hb hu hbd' hNq hUq hnum hN2 hU2 hfinal hO0 hb5
          generalize (ints l2)[q].2.length = nw at *
          generalize ns2 q = nq at *
          generalize hn1 : (ints l).length = n1 at *
          generalize hn2 : (ints l2).length = n2 at *
          go_wp2
          refine wp_region_serF (S := Stg 77 14 15 16 (fun _ v => v = wr.drew) (fun _ v => v = wr.drew) (fun V v => V 14 = .slice (some ⟨wr.drew.heap.size, 0, none⟩) 1 1 ∧ v = wr.drew.alloc (.cells #[.int .i64 (nq + ((k : Int) + 1)), .slice pw nw cw] 41)) (fun V v => (∃ pu2 cu2, V 15 = .slice pu2 (n1 + q + 1) cu2) ∧ Below w4.heap.size w4 v ∧ Owns v w4.heap.size 41 2 (V 15) (n1 + q + 1) (ivC NS US)) (fun V v => (∃ pu2 cu2, V 16 = .slice pu2 (n1 + q + 1) cu2) ∧ Below w4.heap.size w4 v ∧ Owns v w4.heap.size 41 2 (V 16) (n1 + q + 1) (ivC NS US))) rfl (by kernel_rfl) (Stg.start rfl) ?_
          iterate 5 (((refine SerF.step (a1 := ?_) (fun _ => rfl) (fun V L w1 K' Q' hS hi hR hd hK => ?_) ?_ ?_ ?_; rotate_left); (· ((skip); go_simp; (try simp only [Act.put, List.setIfInBounds_toArray, List.set_cons_zero, List.set_cons_succ]); exact hK.out _ (hS.keep rfl rfl rfl rfl))); (· (intro V; rfl)); (· (exact fun _ _ _ _ _ _ => rfl))))
          ((refine SerF.step (a1 := ?_) (fun _ => rfl) (fun V L w1 K' Q' hS hi hR hd hK => ?_) ?_ ?_ ?_; rotate_left); (· ((have a7 := hR.out 7 5 (by kernel_rfl) hi; have a13 := hR.out 13 7 (by kernel_rfl) a7; have a14 := hR.out 14 13 (by kernel_rfl) a13; have a15 := hR.out 15 14 (by kernel_rfl) a14; have a16 := hR.out 16 15 (by kernel_rfl) a15; have e0 := hS.lo a14 a15 a16; subst e0); go_simp; (try simp only [Act.put, List.setIfInBounds_toArray, List.set_cons_zero, List.set_cons_succ]); exact hK.out _ (hS.keep rfl rfl rfl rfl))); (· (intro V; rfl)); (· (exact fun _ _ _ _ _ _ => rfl)))
          iterate 6 (((refine SerF.step (a1 := ?_) (fun _ => rfl) (fun V L w1 K' Q' hS hi hR hd hK => ?_) ?_ ?_ ?_; rotate_left); (· ((skip); go_simp; (try simp only [Act.put, List.setIfInBounds_toArray, List.set_cons_zero, List.set_cons_succ]); exact hK.out _ (hS.keep rfl rfl rfl rfl))); (· (intro V; rfl)); (· (exact fun _ _ _ _ _ _ => rfl))))
          ((refine SerF.step (a1 := ?_) (fun _ => rfl) (fun V L w1 K' Q' hS hi hR hd hK => ?_) ?_ ?_ ?_; rotate_left); (· ((have a13 := hR.out 13 12 (by kernel_rfl) hi; have a14 := hR.out 14 13 (by kernel_rfl) a13; have a15 := hR.out 15 14 (by kernel_rfl) a14; have a16 := hR.out 16 15 (by kernel_rfl) a15; have e0 := hS.lo a14 a15 a16; subst e0); go_simp; (try simp only [Act.put, List.setIfInBounds_toArray, List.set_cons_zero, List.set_cons_succ]); exact hK.out _ (hS.keep rfl rfl rfl rfl))); (· (intro V; rfl)); (· (exact fun _ _ _ _ _ _ => rfl)))
          ((refine SerF.step (a1 := ?_) (fun _ => rfl) (fun V L w1 K' Q' hS hi hR hd hK => ?_) ?_ ?_ ?_; rotate_left); (· ((skip); go_simp; (try simp only [Act.put, List.setIfInBounds_toArray, List.set_cons_zero, List.set_cons_succ]); exact hK.out _ (hS.keep rfl rfl rfl rfl))); (· (intro V; rfl)); (· (exact fun _ _ _ _ _ _ => rfl)))
          refine SerF.free (fun _ => rfl) (fun V L w1 K' Q' hS hi hR hd hK => ?_) ?_
          · have a15 := hR.out 15 14 (by kernel_rfl) hi
            have a16 := hR.out 16 15 (by kernel_rfl) a15
            have e0 := hS.lo hi a15 a16
            subst e0
            go_simp
            (try simp only [Act.put, List.setIfInBounds_toArray, List.set_cons_zero, List.set_cons_succ])
            exact hK.out _ _ rfl (Stg.t2 ⟨rfl, rfl⟩ rfl rfl a15 a16)
          (try simp only [Act.put, List.setIfInBounds_toArray, List.set_cons_zero, List.set_cons_succ])
          refine SerF.free (fun _ => rfl) (fun V L w1 K' Q' hS hi hR hd hK => ?_) ?_
          · have a16 := hR.out 16 15 (by kernel_rfl) hi
            obtain ⟨hV, rfl⟩ := hS.s2 (hd.out 14 (by kernel_rfl)) hi a16
            refine wp_append_own _ _ 26 rfl w4.heap.size 41 i1 _ 2 32 Tryd.underlying26 hj hy0 hy1 hy2 rfl (by decide) _ _ _ rfl (ho2.alloc _) ⟨wr.drew.heap.size, 0, none⟩ 1 1 [.int .i64 (nq + ((k : Int) + 1)), .slice pw nw cw] hV rfl (line_news _ _ _) (iv_one rfl) (by unfold maxLen; omega) (by omega) (by simp; omega) (fun v' w' h1 h2 => ?_)
            obtain ⟨pu2, ku2, rfl⟩ := own_sl h1
            obtain ⟨g1, g2⟩ := hfin _ _ h2 h1
            exact hK.out _ _ rfl (Stg.t3 ⟨⟨_, _, rfl⟩, g1, g2⟩ rfl a16)
          (try simp only [Act.put, List.setIfInBounds_toArray, List.set_cons_zero, List.set_cons_succ])
          refine SerF.free (fun _ => rfl) (fun V L w1 K' Q' hS hi hR hd hK => ?_) ?_
          · have hX := Lib.hid (hS.s3 (hd.out 15 (by kernel_rfl)) hi)
            go_simp
            (try simp only [Act.put, List.setIfInBounds_toArray, List.set_cons_zero, List.set_cons_succ])
            exact hK.out _ _ rfl (Stg.t4 hX.out)
          (try simp only [Act.put, List.setIfInBounds_toArray, List.set_cons_zero, List.set_cons_succ])
          refine SerF.nil fun V w1 hS => ?_
          obtain ⟨⟨pu2, cu2, hV⟩, hb2, ho3⟩ := hS.s4 rfl
          rw [hV] at ho3
          simp only [hV]
          clear hS hfin ho2 c0 c1 hV
          go_wp2
          go_roundw
          case rel => exact ⟨q + 1, by omega, by go_num, hb2, ho3⟩
          case measure => simp [intOf]; omega
    · have hlt : q < s.size := by omega
      have hqI : (q : Int) < (s.size : Int) := by omega
      have hct := count_take hlt
      generalize hcc : s[q] = c at hct
      have hcell : s[q] = c := hcc
      clear hcc hend
      by_cases h10 : c = 10
      · subst h10
        rw [if_pos rfl] at hct
        have hc10 : (((10 : UInt8).toNat : Nat) : Int) = 10 := rfl
        generalize (s.data.toList.take q).count 10 = k at *
        go_wp2
        go_roundw
        case rel => exact ⟨q + 1, by omega, by go_num, by rw [hct]; go_num, trivial⟩
        case measure => simp [intOf]; omega
      · rw [if_neg h10] at hct
        have hc10 : ¬ (c.toNat : Int) = 10 := fun h => h10 (UInt8.toNat_inj.1 (by show c.toNat = 10; omega))
        generalize (s.data.toList.take q).count 10 = k at *
        go_wp2
        go_roundw
        case rel => exact ⟨q + 1, by omega, by go_num, by rw [hct]; rfl, trivial⟩
        case measure => simp [intOf]; omega
end Go.Proofs.YtejfienogljboaaDoor
