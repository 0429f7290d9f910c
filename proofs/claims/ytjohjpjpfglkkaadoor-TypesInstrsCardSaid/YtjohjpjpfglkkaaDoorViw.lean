/- Data handed in, seen as programs, functions, instructions, ends. -/
import Derived.Test.YtjohjpjpfglkkaaDoorFew
namespace Go.Proofs.YtjohjpjpfglkkaaDoor
open Go Go.ChangeShapes Go.WideShapes Go.Deep
theorem wt_of {H : Type} {P : Program} {ts : List TypeId} {ds : List (DataW H)} (hk : (DataW.weightsEach P ts ds).all (· ≤ reachBytes) = true) {j : Nat} {t : TypeId} {d : DataW H} (ht : ts[j]? = some t) (hd : ds[j]? = some d) : ∀ k ∈ DataW.weights P t d, k ≤ 140737488351232 := fun k hm => by
  have := List.all_eq_true.1 hk k (DataW.weights_mem_each ht hd k hm)
  exact of_decide_eq_true this
section
variable {H : Type} {enc : TypeId × Value → H} {w : World} {base : Nat} {spare : Nat → Bool} {held : Bool}
theorem cut_one {cs : List Value} {k : Nat} {v : Value} (h : (cs.drop k).take 1 = [v]) : cs[k]? = some v := by
  have h2 : ((cs.drop k).take 1)[0]? = some v := by rw [h]; rfl
  rw [List.getElem?_take_of_lt (by decide), List.getElem?_drop] at h2
  simpa using h2
theorem rd_str {cs : List Value} {k : Nat} (h : Rd enc Tryd.prog w base spare held 9 ((cs.drop k).take 1)) : ∃ s : ByteArray, cs[k]? = some (.string s) ∧ Sz s := by
  obtain ⟨s, e, hz⟩ := h.str Tryd.underlying9
  exact ⟨s, cut_one e, hz⟩
theorem rd_int {cs : List Value} {k : Nat} (h : Rd enc Tryd.prog w base spare held 3 ((cs.drop k).take 1)) : ∃ n : Int, cs[k]? = some (.int .i64 n) ∧ (Lit.int .i64 n).wf = true := by
  obtain ⟨s, e, hz⟩ := h.int Tryd.underlying3
  exact ⟨s, cut_one e, hz⟩
theorem rd_i64 {cs : List Value} {k : Nat} (h : Rd enc Tryd.prog w base spare held 2 ((cs.drop k).take 1)) : ∃ n : Int, cs[k]? = some (.int .i64 n) ∧ (Lit.int .i64 n).wf = true := by
  obtain ⟨s, e, hz⟩ := h.int Tryd.underlying2
  exact ⟨s, cut_one e, hz⟩
theorem see_s {a : Addr} {cs : List Value} (h : Rd enc Tryd.prog w base spare held 9 cs) (_ : cs.length = 1) (hc : ∀ j, j < 1 → w.cell? (a.add j) = cs[j]?) : ∃ x, AtS w a x := by
  obtain ⟨s, rfl, hz⟩ := h.str Tryd.underlying9
  exact ⟨s, hc 0 (by decide), hz⟩
set_option maxRecDepth 100000 in
theorem see_v {a : Addr} {cs : List Value} (h : Rd enc Tryd.prog w base spare held 60 cs) (_ : cs.length = 2) (hc : ∀ j, j < 2 → w.cell? (a.add j) = cs[j]?) : ∃ x, AtV w a x := by
  have hs := (h.struct Tryd.underlying60).2
  obtain ⟨n, e0, z0⟩ := rd_str (k := 0) (hs 0 _ rfl)
  obtain ⟨t, e1, z1⟩ := rd_str (k := 1) (hs 1 _ rfl)
  exact ⟨⟨n, t⟩, ⟨(hc 0 (by decide)).trans e0, z0⟩, (hc 1 (by decide)).trans e1, z1⟩
set_option maxRecDepth 100000 in
theorem see_x {a : Addr} {cs : List Value} (h : Rd enc Tryd.prog w base spare held 77 cs) (_ : cs.length = 2) (hc : ∀ j, j < 2 → w.cell? (a.add j) = cs[j]?) : ∃ x, AtX w a x := by
  have hs := (h.struct Tryd.underlying77).2
  obtain ⟨n, e0, z0⟩ := rd_str (k := 0) (hs 0 _ rfl)
  obtain ⟨k, e1, _⟩ := rd_int (k := 1) (hs 1 _ rfl)
  exact ⟨⟨n, k⟩, ⟨(hc 0 (by decide)).trans e0, z0⟩, (hc 1 (by decide)).trans e1⟩
set_option maxRecDepth 100000 in
theorem see_a {a : Addr} {cs : List Value} (h : Rd enc Tryd.prog w base spare held 42 cs) (_ : cs.length = 3) (hc : ∀ j, j < 3 → w.cell? (a.add j) = cs[j]?) : ∃ x, AtA w a x := by
  have hs := (h.struct Tryd.underlying42).2
  obtain ⟨k, e0, _⟩ := rd_int (k := 0) (hs 0 _ rfl)
  obtain ⟨s, e1, z1⟩ := rd_str (k := 1) (hs 1 _ rfl)
  obtain ⟨n, e2, _⟩ := rd_i64 (k := 2) (hs 2 _ rfl)
  exact ⟨⟨k, s, n⟩, (hc 0 (by decide)).trans e0, ⟨(hc 1 (by decide)).trans e1, z1⟩, (hc 2 (by decide)).trans e2⟩
theorem rd_row {α : Type} {E : World → Addr → α → Prop} {sz : Nat} {t e : TypeId} {cs : List Value} {k : Nat} (ht : Tryd.prog.underlying t = some (.slice e)) (hby : 1 ≤ Tryd.prog.bytesOf e) (hsz : Tryd.prog.cellsOf e = sz) (h : Rd enc Tryd.prog w base spare held t ((cs.drop k).take 1))
    (hE : ∀ (a : Addr) (cs : List Value), Rd enc Tryd.prog w base spare held e cs → cs.length = sz → (∀ j, j < sz → w.cell? (a.add j) = cs[j]?) → ∃ x, E w a x) : ∃ v l, cs[k]? = some v ∧ Row E sz w v l := by
  obtain ⟨p, len, cap, hv, -⟩ := h.slice ht hby
  rw [hv] at h
  obtain ⟨l, hl⟩ := h.row ht hby hsz hE
  exact ⟨_, l, cut_one hv, hl⟩
set_option maxRecDepth 100000 in
theorem see_c {a : Addr} {cs : List Value} (h : Rd enc Tryd.prog w base spare held 67 cs) (_ : cs.length = 2) (hc : ∀ j, j < 2 → w.cell? (a.add j) = cs[j]?) : ∃ x, AtC w a x := by
  have hs := (h.struct Tryd.underlying67).2
  obtain ⟨n, e0, z0⟩ := rd_str (k := 0) (hs 0 _ rfl)
  obtain ⟨u, l, e1, hl⟩ := rd_row (k := 1) (E := AtV) (sz := 2) Tryd.underlying23 (of_decide_eq_true (by kernel_rfl)) (by kernel_rfl) (hs 1 _ rfl) fun _ _ => see_v
  exact ⟨⟨n, l⟩, ⟨(hc 0 (by decide)).trans e0, z0⟩, u, (hc 1 (by decide)).trans e1, hl⟩
theorem at_of {a : Addr} {k : Nat} {v : Value} (h : w.cell? (a.add k) = some v) : At w a k v := by
  by_cases hk : k = 0
  · subst hk
    replace h : w.cell? a = some v := h
    obtain ⟨b, o, sp⟩ := a
    cases sp with
    | none => exact h
    | some s =>
      exfalso
      unfold World.cell? at h
      split at h
      · cases h
      · cases h
  · unfold Addr.add at h
    rw [if_neg hk] at h
    exact h
theorem cut_in {cs : List Value} {k n j : Nat} {v : Value} (hj : j < n) (h : ((cs.drop k).take n)[j]? = some v) : cs[k + j]? = some v := by
  rwa [List.getElem?_take_of_lt hj, List.getElem?_drop] at h
set_option maxRecDepth 100000 in
theorem see_a' {a : Addr} {cs : List Value} {k n : Nat} (h : Rd enc Tryd.prog w base spare held 42 ((cs.drop k).take 3)) (hn : k + 3 ≤ n) (hc : ∀ j, j < n → w.cell? (a.add j) = cs[j]?) : ∃ x, AtA' w a k x := by
  have hs := (h.struct Tryd.underlying42).2
  obtain ⟨q, e0, _⟩ := rd_int (k := 0) (hs 0 _ rfl)
  obtain ⟨s, e1, z1⟩ := rd_str (k := 1) (hs 1 _ rfl)
  obtain ⟨m, e2, _⟩ := rd_i64 (k := 2) (hs 2 _ rfl)
  exact ⟨⟨q, s, m⟩, at_of ((hc k (by omega)).trans (cut_in (j := 0) (by decide) e0)), ⟨at_of ((hc (k + 1) (by omega)).trans (cut_in (j := 1) (by decide) e1)), z1⟩, at_of ((hc (k + 2) (by omega)).trans (cut_in (j := 2) (by decide) e2))⟩
set_option maxRecDepth 100000 in
theorem see_b {a : Addr} {cs : List Value} (h : Rd enc Tryd.prog w base spare held 120 cs) (_ : cs.length = 4) (hc : ∀ j, j < 4 → w.cell? (a.add j) = cs[j]?) : ∃ x, AtB w a x := by
  have hs := (h.struct Tryd.underlying120).2
  obtain ⟨n, e0, z0⟩ := rd_str (k := 0) (hs 0 _ rfl)
  obtain ⟨x, hx⟩ := see_a' (k := 1) (n := 4) (a := a) (hs 1 _ rfl) (by decide) hc
  exact ⟨⟨n, x⟩, ⟨(hc 0 (by decide)).trans e0, z0⟩, hx⟩
set_option maxRecDepth 100000 in
theorem see_fr {a : Addr} {cs : List Value} (h : Rd enc Tryd.prog w base spare held 118 cs) (_ : cs.length = 4) (hc : ∀ j, j < 4 → w.cell? (a.add j) = cs[j]?) : ∃ x, AtFr w a x := by
  have hs := (h.struct Tryd.underlying118).2
  obtain ⟨n, e0, z0⟩ := rd_str (k := 0) (hs 0 _ rfl)
  obtain ⟨b, e1, z1⟩ := rd_str (k := 1) (hs 1 _ rfl)
  obtain ⟨q, e2, _⟩ := rd_int (k := 2) (hs 2 _ rfl)
  obtain ⟨u, l, e3, hl⟩ := rd_row (k := 3) (E := AtB) (sz := 4) Tryd.underlying116 (of_decide_eq_true (by kernel_rfl)) (by kernel_rfl) (hs 3 _ rfl) fun _ _ => see_b
  exact ⟨⟨n, b, q, l⟩, ⟨(hc 0 (by decide)).trans e0, z0⟩, ⟨at_of ((hc 1 (by decide)).trans e1), z1⟩, at_of ((hc 2 (by decide)).trans e2), u, at_of ((hc 3 (by decide)).trans e3), hl⟩
set_option maxRecDepth 100000 in
theorem see_vt {a : Addr} {cs : List Value} (h : Rd enc Tryd.prog w base spare held 122 cs) (_ : cs.length = 2) (hc : ∀ j, j < 2 → w.cell? (a.add j) = cs[j]?) : ∃ x, AtVt w a x := by
  have hs := (h.struct Tryd.underlying122).2
  obtain ⟨n, e0, z0⟩ := rd_str (k := 0) (hs 0 _ rfl)
  obtain ⟨u, l, e1, hl⟩ := rd_row (k := 1) (E := AtA) (sz := 3) Tryd.underlying31 (of_decide_eq_true (by kernel_rfl)) (by kernel_rfl) (hs 1 _ rfl) fun _ _ => see_a
  exact ⟨⟨n, l⟩, ⟨(hc 0 (by decide)).trans e0, z0⟩, u, at_of ((hc 1 (by decide)).trans e1), hl⟩
set_option maxRecDepth 100000 in
theorem see_i {a : Addr} {cs : List Value} (h : Rd enc Tryd.prog w base spare held 35 cs) (_ : cs.length = 6) (hc : ∀ j, j < 6 → w.cell? (a.add j) = cs[j]?) : ∃ x, AtI w a x := by
  have hs := (h.struct Tryd.underlying35).2
  obtain ⟨q, e0, _⟩ := rd_int (k := 0) (hs 0 _ rfl)
  obtain ⟨d, e1, z1⟩ := rd_str (k := 1) (hs 1 _ rfl)
  obtain ⟨n, e2, z2⟩ := rd_str (k := 2) (hs 2 _ rfl)
  obtain ⟨u3, l3, e3, h3⟩ := rd_row (k := 3) (E := AtA) (sz := 3) Tryd.underlying31 (of_decide_eq_true (by kernel_rfl)) (by kernel_rfl) (hs 3 _ rfl) fun _ _ => see_a
  obtain ⟨u4, l4, e4, h4⟩ := rd_row (k := 4) (E := AtFr) (sz := 4) Tryd.underlying32 (of_decide_eq_true (by kernel_rfl)) (by kernel_rfl) (hs 4 _ rfl) fun _ _ => see_fr
  obtain ⟨u5, l5, e5, h5⟩ := rd_row (k := 5) (E := AtVt) (sz := 2) Tryd.underlying33 (of_decide_eq_true (by kernel_rfl)) (by kernel_rfl) (hs 5 _ rfl) fun _ _ => see_vt
  exact ⟨⟨q, d, n, l3, l4, l5⟩, (hc 0 (by decide)).trans e0, ⟨at_of ((hc 1 (by decide)).trans e1), z1⟩, ⟨at_of ((hc 2 (by decide)).trans e2), z2⟩, ⟨u3, at_of ((hc 3 (by decide)).trans e3), h3⟩, ⟨u4, at_of ((hc 4 (by decide)).trans e4), h4⟩, u5, at_of ((hc 5 (by decide)).trans e5), h5⟩
set_option maxRecDepth 100000 in
theorem see_in {a : Addr} {cs : List Value} (h : Rd enc Tryd.prog w base spare held 108 cs) (_ : cs.length = 4) (hc : ∀ j, j < 4 → w.cell? (a.add j) = cs[j]?) : ∃ x, AtIn w a x := by
  have hs := (h.struct Tryd.underlying108).2
  obtain ⟨n, e0, z0⟩ := rd_str (k := 0) (hs 0 _ rfl)
  obtain ⟨x, hx⟩ := see_a' (k := 1) (n := 4) (a := a) (hs 1 _ rfl) (by decide) hc
  exact ⟨⟨n, x⟩, ⟨(hc 0 (by decide)).trans e0, z0⟩, hx⟩
set_option maxRecDepth 100000 in
theorem see_ph {a : Addr} {cs : List Value} (h : Rd enc Tryd.prog w base spare held 106 cs) (_ : cs.length = 2) (hc : ∀ j, j < 2 → w.cell? (a.add j) = cs[j]?) : ∃ x, AtPh w a x := by
  have hs := (h.struct Tryd.underlying106).2
  obtain ⟨n, e0, z0⟩ := rd_str (k := 0) (hs 0 _ rfl)
  obtain ⟨u, l, e1, hl⟩ := rd_row (k := 1) (E := AtIn) (sz := 4) Tryd.underlying104 (of_decide_eq_true (by kernel_rfl)) (by kernel_rfl) (hs 1 _ rfl) fun _ _ => see_in
  exact ⟨⟨n, l⟩, ⟨(hc 0 (by decide)).trans e0, z0⟩, u, at_of ((hc 1 (by decide)).trans e1), hl⟩
theorem cut_cut {cs cs' : List Value} {k n i m : Nat} (h : cs' = (cs.drop k).take n) (hm : i + m ≤ n) : (cs'.drop i).take m = (cs.drop (k + i)).take m := by
  subst h
  rw [List.drop_take, List.take_take, List.drop_drop, Nat.min_eq_left (by omega)]
set_option maxRecDepth 100000 in
theorem see_t' {a : Addr} {cs : List Value} {k n : Nat} (h : Rd enc Tryd.prog w base spare held 48 ((cs.drop k).take 6)) (hn : k + 6 ≤ n) (hc : ∀ j, j < n → w.cell? (a.add j) = cs[j]?) : ∃ x, AtT' w a k x := by
  have hs := (h.struct Tryd.underlying48).2
  obtain ⟨q, e0, _⟩ := rd_int (k := 0) (hs 0 _ rfl)
  have ha : Rd enc Tryd.prog w base spare held 42 ((((cs.drop k).take 6).drop 1).take 3) := hs 1 _ rfl
  rw [cut_cut rfl (by decide)] at ha
  obtain ⟨x, hx⟩ := see_a' (k := k + 1) (n := n) (a := a) ha (by omega) hc
  obtain ⟨u, l, e4, h4⟩ := rd_row (k := 4) (E := AtS) (sz := 1) Tryd.underlying46 (of_decide_eq_true (by kernel_rfl)) (by kernel_rfl) (hs 2 _ rfl) fun _ _ => see_s
  obtain ⟨m, e5, _⟩ := rd_i64 (k := 5) (hs 3 _ rfl)
  exact ⟨⟨q, x, l, m⟩, at_of ((hc k (by omega)).trans (cut_in (j := 0) (by decide) e0)), hx, ⟨u, at_of ((hc (k + 4) (by omega)).trans (cut_in (j := 4) (by decide) e4)), h4⟩, at_of ((hc (k + 5) (by omega)).trans (cut_in (j := 5) (by decide) e5))⟩
set_option maxRecDepth 100000 in
theorem see_bk {a : Addr} {cs : List Value} (h : Rd enc Tryd.prog w base spare held 93 cs) (_ : cs.length = 9) (hc : ∀ j, j < 9 → w.cell? (a.add j) = cs[j]?) : ∃ x, AtBk w a x := by
  have hs := (h.struct Tryd.underlying93).2
  obtain ⟨n, e0, z0⟩ := rd_str (k := 0) (hs 0 _ rfl)
  obtain ⟨u1, l1, e1, h1⟩ := rd_row (k := 1) (E := AtPh) (sz := 2) Tryd.underlying90 (of_decide_eq_true (by kernel_rfl)) (by kernel_rfl) (hs 1 _ rfl) fun _ _ => see_ph
  obtain ⟨u2, l2, e2, h2⟩ := rd_row (k := 2) (E := AtI) (sz := 6) Tryd.underlying91 (of_decide_eq_true (by kernel_rfl)) (by kernel_rfl) (hs 2 _ rfl) fun _ _ => see_i
  obtain ⟨x, hx⟩ := see_t' (k := 3) (n := 9) (a := a) (hs 3 _ rfl) (by decide) hc
  exact ⟨⟨n, l1, l2, x⟩, ⟨(hc 0 (by decide)).trans e0, z0⟩, ⟨u1, at_of ((hc 1 (by decide)).trans e1), h1⟩, ⟨u2, at_of ((hc 2 (by decide)).trans e2), h2⟩, hx⟩
set_option maxRecDepth 100000 in
theorem see_f {a : Addr} {cs : List Value} (h : Rd enc Tryd.prog w base spare held 30 cs) (_ : cs.length = 5) (hc : ∀ j, j < 5 → w.cell? (a.add j) = cs[j]?) : ∃ x, AtF w a x := by
  have hs := (h.struct Tryd.underlying30).2
  obtain ⟨n, e0, z0⟩ := rd_str (k := 0) (hs 0 _ rfl)
  obtain ⟨r, e1, z1⟩ := rd_str (k := 1) (hs 1 _ rfl)
  obtain ⟨u2, l2, e2, h2⟩ := rd_row (k := 2) (E := AtV) (sz := 2) Tryd.underlying23 (of_decide_eq_true (by kernel_rfl)) (by kernel_rfl) (hs 2 _ rfl) fun _ _ => see_v
  obtain ⟨u3, l3, e3, h3⟩ := rd_row (k := 3) (E := AtV) (sz := 2) Tryd.underlying23 (of_decide_eq_true (by kernel_rfl)) (by kernel_rfl) (hs 3 _ rfl) fun _ _ => see_v
  obtain ⟨u4, l4, e4, h4⟩ := rd_row (k := 4) (E := AtBk) (sz := 9) Tryd.underlying28 (of_decide_eq_true (by kernel_rfl)) (by kernel_rfl) (hs 4 _ rfl) fun _ _ => see_bk
  exact ⟨⟨n, r, l2, l3, l4⟩, ⟨(hc 0 (by decide)).trans e0, z0⟩, ⟨at_of ((hc 1 (by decide)).trans e1), z1⟩, ⟨u2, at_of ((hc 2 (by decide)).trans e2), h2⟩, ⟨u3, at_of ((hc 3 (by decide)).trans e3), h3⟩, u4, at_of ((hc 4 (by decide)).trans e4), h4⟩
/-! handed-in values -/
theorem list5 {cs : List Value} {a b c d e : Value} (hl : cs.length = 5) (h0 : cs[0]? = some a) (h1 : cs[1]? = some b) (h2 : cs[2]? = some c) (h3 : cs[3]? = some d) (h4 : cs[4]? = some e) : cs = [a, b, c, d, e] := by
  match cs, hl with
  | [x0, x1, x2, x3, x4], _ => simp_all
theorem list6 {cs : List Value} {a b c d e f : Value} (hl : cs.length = 6) (h0 : cs[0]? = some a) (h1 : cs[1]? = some b) (h2 : cs[2]? = some c) (h3 : cs[3]? = some d) (h4 : cs[4]? = some e) (h5 : cs[5]? = some f) : cs = [a, b, c, d, e, f] := by
  match cs, hl with
  | [x0, x1, x2, x3, x4, x5], _ => simp_all
theorem list3 {cs : List Value} {a b c : Value} (hl : cs.length = 3) (h0 : cs[0]? = some a) (h1 : cs[1]? = some b) (h2 : cs[2]? = some c) : cs = [a, b, c] := by
  match cs, hl with
  | [x0, x1, x2], _ => simp_all
theorem list2 {cs : List Value} {a b : Value} (hl : cs.length = 2) (h0 : cs[0]? = some a) (h1 : cs[1]? = some b) : cs = [a, b] := by
  match cs, hl with
  | [x0, x1], _ => simp_all
/-- a struct handed in -/
theorem rd_of {P : Program} {t : TypeId} {fs : Array Field} {r : Reach} {b0 : Nat} {v : Value} {d : DataW H} {p : List MemPlace} (hs : P.underlying t = some (.struct fs)) (hv : Value.okWide P w r b0 t v)
    (h : DataW.Trod enc P w base spare held t v d p) (hk : ∀ k ∈ DataW.weights P t d, k ≤ 140737488351232) : ∃ cs : List Value, v = .agg cs.toArray ∧ Rd enc P w base spare held t cs := by
  obtain ⟨cs, rfl, hsz⟩ := okWide_struct hs hv
  obtain ⟨fuel, hf⟩ := h
  exact ⟨cs.toList, by simp, fuel, (d, p), hf, hk⟩
theorem rd_bool {cs : List Value} {k : Nat} (h : Rd enc Tryd.prog w base spare held 4 ((cs.drop k).take 1)) : ∃ b : Bool, cs[k]? = some (.bool b) := by
  obtain ⟨s, e⟩ := h.bool Tryd.underlying4
  exact ⟨s, cut_one e⟩
set_option maxRecDepth 100000 in
theorem in_p {cs : List Value} (h : Rd enc Tryd.prog w base spare held 27 cs) : ∃ (p : Pg) (u1 u2 u3 u4 : Value), ValP w (.agg cs.toArray) p u1 u2 u3 u4 := by
  obtain ⟨hl, hs⟩ := h.struct Tryd.underlying27
  obtain ⟨b, e0⟩ := rd_bool (k := 0) (hs 0 _ rfl)
  obtain ⟨u1, l1, e1, h1⟩ := rd_row (k := 1) (E := AtC) (sz := 2) Tryd.underlying22 (of_decide_eq_true (by kernel_rfl)) (by kernel_rfl) (hs 1 _ rfl) fun _ _ => see_c
  obtain ⟨u2, l2, e2, h2⟩ := rd_row (k := 2) (E := AtV) (sz := 2) Tryd.underlying23 (of_decide_eq_true (by kernel_rfl)) (by kernel_rfl) (hs 2 _ rfl) fun _ _ => see_v
  obtain ⟨u3, l3, e3, h3⟩ := rd_row (k := 3) (E := AtX) (sz := 2) Tryd.underlying24 (of_decide_eq_true (by kernel_rfl)) (by kernel_rfl) (hs 3 _ rfl) fun _ _ => see_x
  obtain ⟨u4, l4, e4, h4⟩ := rd_row (k := 4) (E := AtF) (sz := 5) Tryd.underlying25 (of_decide_eq_true (by kernel_rfl)) (by kernel_rfl) (hs 4 _ rfl) fun _ _ => see_f
  have := list5 (hl.trans (by kernel_rfl)) e0 e1 e2 e3 e4
  exact ⟨⟨b, l1, l2, l3, l4⟩, u1, u2, u3, u4, by rw [this], h1, h2, h3, h4⟩
set_option maxRecDepth 100000 in
theorem in_f {cs : List Value} (h : Rd enc Tryd.prog w base spare held 30 cs) : ∃ (f : Fn) (u1 u2 u3 : Value), ValF w (.agg cs.toArray) f u1 u2 u3 := by
  obtain ⟨hl, hs⟩ := h.struct Tryd.underlying30
  obtain ⟨n, e0, z0⟩ := rd_str (k := 0) (hs 0 _ rfl)
  obtain ⟨r, e1, z1⟩ := rd_str (k := 1) (hs 1 _ rfl)
  obtain ⟨u2, l2, e2, h2⟩ := rd_row (k := 2) (E := AtV) (sz := 2) Tryd.underlying23 (of_decide_eq_true (by kernel_rfl)) (by kernel_rfl) (hs 2 _ rfl) fun _ _ => see_v
  obtain ⟨u3, l3, e3, h3⟩ := rd_row (k := 3) (E := AtV) (sz := 2) Tryd.underlying23 (of_decide_eq_true (by kernel_rfl)) (by kernel_rfl) (hs 3 _ rfl) fun _ _ => see_v
  obtain ⟨u4, l4, e4, h4⟩ := rd_row (k := 4) (E := AtBk) (sz := 9) Tryd.underlying28 (of_decide_eq_true (by kernel_rfl)) (by kernel_rfl) (hs 4 _ rfl) fun _ _ => see_bk
  have := list5 (hl.trans (by kernel_rfl)) e0 e1 e2 e3 e4
  exact ⟨⟨n, r, l2, l3, l4⟩, u2, u3, u4, by rw [this], ⟨z0, z1⟩, h2, h3, h4⟩
set_option maxRecDepth 100000 in
theorem in_i {cs : List Value} (h : Rd enc Tryd.prog w base spare held 35 cs) : ∃ (x : Is) (u1 u2 u3 : Value), ValI w (.agg cs.toArray) x u1 u2 u3 := by
  obtain ⟨hl, hs⟩ := h.struct Tryd.underlying35
  obtain ⟨q, e0, _⟩ := rd_int (k := 0) (hs 0 _ rfl)
  obtain ⟨d, e1, z1⟩ := rd_str (k := 1) (hs 1 _ rfl)
  obtain ⟨n, e2, z2⟩ := rd_str (k := 2) (hs 2 _ rfl)
  obtain ⟨u3, l3, e3, h3⟩ := rd_row (k := 3) (E := AtA) (sz := 3) Tryd.underlying31 (of_decide_eq_true (by kernel_rfl)) (by kernel_rfl) (hs 3 _ rfl) fun _ _ => see_a
  obtain ⟨u4, l4, e4, h4⟩ := rd_row (k := 4) (E := AtFr) (sz := 4) Tryd.underlying32 (of_decide_eq_true (by kernel_rfl)) (by kernel_rfl) (hs 4 _ rfl) fun _ _ => see_fr
  obtain ⟨u5, l5, e5, h5⟩ := rd_row (k := 5) (E := AtVt) (sz := 2) Tryd.underlying33 (of_decide_eq_true (by kernel_rfl)) (by kernel_rfl) (hs 5 _ rfl) fun _ _ => see_vt
  have := list6 (hl.trans (by kernel_rfl)) e0 e1 e2 e3 e4 e5
  exact ⟨⟨q, d, n, l3, l4, l5⟩, u3, u4, u5, by rw [this], ⟨z1, z2⟩, h3, h4, h5⟩
set_option maxRecDepth 100000 in
theorem in_a {cs : List Value} (h : Rd enc Tryd.prog w base spare held 42 cs) : ∃ x : Ag, cs = [.int .i64 x.k, .string x.s, .int .i64 x.n] ∧ Sz x.s := by
  obtain ⟨hl, hs⟩ := h.struct Tryd.underlying42
  obtain ⟨k, e0, _⟩ := rd_int (k := 0) (hs 0 _ rfl)
  obtain ⟨s, e1, z1⟩ := rd_str (k := 1) (hs 1 _ rfl)
  obtain ⟨n, e2, _⟩ := rd_i64 (k := 2) (hs 2 _ rfl)
  exact ⟨⟨k, s, n⟩, list3 (hl.trans (by kernel_rfl)) e0 e1 e2, z1⟩
set_option maxRecDepth 100000 in
theorem in_v {cs : List Value} (h : Rd enc Tryd.prog w base spare held 60 cs) : ∃ x : Vr, cs = [.string x.n, .string x.t] ∧ Sz x.n ∧ Sz x.t := by
  obtain ⟨hl, hs⟩ := h.struct Tryd.underlying60
  obtain ⟨k, e0, z0⟩ := rd_str (k := 0) (hs 0 _ rfl)
  obtain ⟨s, e1, z1⟩ := rd_str (k := 1) (hs 1 _ rfl)
  exact ⟨⟨k, s⟩, list2 (hl.trans (by kernel_rfl)) e0 e1, z0, z1⟩
set_option maxRecDepth 100000 in
theorem in_t {cs : List Value} (h : Rd enc Tryd.prog w base spare held 48 cs) : ∃ (k : Int) (a : Ag) (p : Option Addr) (l c : Nat) (n : Int), cs = [.int .i64 k, .int .i64 a.k, .string a.s, .int .i64 a.n, .slice p l c, .int .i64 n] ∧ Sz a.s := by
  obtain ⟨hl, hs⟩ := h.struct Tryd.underlying48
  obtain ⟨q, e0, _⟩ := rd_int (k := 0) (hs 0 _ rfl)
  have ha : Rd enc Tryd.prog w base spare held 42 ((cs.drop 1).take 3) := hs 1 _ rfl
  have hs1 := (ha.struct Tryd.underlying42).2
  obtain ⟨k, e1, _⟩ := rd_int (k := 0) (hs1 0 _ rfl)
  obtain ⟨s, e2, z1⟩ := rd_str (k := 1) (hs1 1 _ rfl)
  obtain ⟨m, e3, _⟩ := rd_i64 (k := 2) (hs1 2 _ rfl)
  obtain ⟨u, l, e4, h4⟩ := rd_row (k := 4) (E := AtS) (sz := 1) Tryd.underlying46 (of_decide_eq_true (by kernel_rfl)) (by kernel_rfl) (hs 2 _ rfl) fun _ _ => see_s
  obtain ⟨n, e5, _⟩ := rd_i64 (k := 5) (hs 3 _ rfl)
  obtain ⟨p, c, rfl⟩ := h4.slice
  exact ⟨q, ⟨k, s, m⟩, p, l.length, c, n, list6 (hl.trans (by kernel_rfl)) e0 (cut_in (j := 0) (by decide) e1) (cut_in (j := 1) (by decide) e2) (cut_in (j := 2) (by decide) e3) e4 e5, z1⟩
end
end Go.Proofs.YtjohjpjpfglkkaaDoor
