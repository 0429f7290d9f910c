/- HeapActs. -/
import Derived.Test.YtndakhnplnamdaaHeapO
namespace Go.Proofs.Ytndakhnplnamdaa
open Go.RowKit

theorem SameAs.trans {n : Nat} {a b c : Nat → ObjD} (h : SameAs n a b) (k : SameAs n b c) : SameAs n a c := fun j hj => ⟨(h j hj).1.trans (k j hj).1, (h j hj).2.1.trans (k j hj).2.1, (h j hj).2.2.trans (k j hj).2.2⟩
theorem SameAs.symm {n : Nat} {a b : Nat → ObjD} (h : SameAs n a b) : SameAs n b a := fun j hj => ⟨(h j hj).1.symm, (h j hj).2.1.symm, (h j hj).2.2.symm⟩
theorem SameAs.last {n : Nat} {a b c : Nat → ObjD} (h : SameAs n a c) (k : SameAs n b c) (h1 : (a n).c = (b n).c) (h2 : (a n).l = (b n).l) (h3 : (a n).vs = (b n).vs) : SameAs (n + 1) a b := fun j hj => by
  by_cases e : j = n
  · subst e; exact ⟨h1, h2, h3⟩
  · exact (h.trans k.symm) j (by omega)
theorem rstore_val (ph : Option Addr) (n ch : Nat) (ob : Nat → ObjD) (hn : n ≤ 1000) (hl : ∀ i, i < n → (ob i).l ≤ 1000) (s : ByteArray) (x at' : Int) (t : ByteArray) (y : Int) (hy : -9223372036854775808 ≤ y ∧ y ≤ 9223372036854775807) (w : World) (hO : Objs w ph n ob) :
    Calls Try.prog 15 #[.slice ph n ch, .agg #[.string s, .int .i64 x], .int .i64 at', .agg #[.string t, .int .i64 y]] w (RStorePost w n (putOb n ob (s, x) at' (t, y)) (loadV n ob (s, x) at').2) := by
  rcases hL : loadV n ob (s, x) at' with ⟨⟨r, m⟩, ok⟩
  cases ok
  · rw [loadV_no hL]
    exact rstore_no ph n ch ob hn hl s x at' t y r m hL w hO
  · obtain ⟨q, i, rfl, rfl, hq, hi, hyes⟩ := loadV_yes hL
    rw [hyes]
    exact rstore_yes ph n ch ob hn hl s q i hq hi t y hy r m hL w hO
theorem rnew_val (ph : Option Addr) (n ch : Nat) (hz : ph = none → n = 0 ∧ ch = 0) (ob : Nat → ObjD) (hn : n ≤ 100) (cl : ByteArray) (pa : Option Addr) (l ca : Nat) (vs : Nat → Vl) (hla : l ≤ 1000) (w : World) (hO : Objs w ph n ob) (hV : Vals w pa l vs) :
    Calls Try.prog 11 #[.slice ph n ch, .string cl, .slice pa l ca] w (RNewPost w n ob cl l vs) := by
  cases ph with
  | none =>
    obtain ⟨rfl, rfl⟩ := hz rfl
    exact rnew_nil 0 ob rfl hn cl pa l ca vs hla w hO hV
  | some a => exact rnew_some a n ch ob hn cl pa l ca vs hla w hO hV

set_option maxHeartbeats 4000000 in
theorem acts_few (ph : Option Addr) (n ch : Nat) (ob : Nat → ObjD) (cl : ByteArray) (pa : Option Addr) (l ca : Nat) (s : ByteArray) (x at' : Int) (t : ByteArray) (y : Int) (hm : l ≤ 9223372036854775807) (hno : fewB n ob = false ∨ (fewB n ob = true ∧ 50 < l)) (w : World) (hO : Objs w ph n ob) :
    Calls Try.prog 3 #[.slice ph n ch, .string cl, .slice pa l ca, .agg #[.string s, .int .i64 x], .int .i64 at', .agg #[.string t, .int .i64 y]] w (AllTrue w) := by
  have HF := fun w1 (hb : Below w.heap.size w w1) => few_val ph n ch ob w1 (hO.below hb)
  rcases hno with hf | ⟨hf, hl⟩
  all_goals
    rw [hf] at HF
    clear hf
    go_enter Try.func3, Try.ntmps3
    go_wp2_with fail
    refine (awake_val _).mono ?_
    rintro e w1 ⟨rfl, hb⟩
    obtain ⟨-, -, hB⟩ := boxes2 (c1 := [_, _]) (c2 := [_, _]) hb
    clear hb
    go_wp2_with fail
    refine (HF _ hB).mono ?_
    rintro e w2 ⟨rfl, rfl⟩
    go_wp2_with fail
    refine (awake_val _).mono ?_
    rintro e w2 ⟨rfl, hb⟩
    have hB2 := bthen hB hb
    clear hb
    go_wp2
    go_ret
    exact ⟨rfl, hB2⟩

set_option maxHeartbeats 4000000 in
theorem acts_main (ph : Option Addr) (n ch : Nat) (hz : ph = none → n = 0 ∧ ch = 0) (ob : Nat → ObjD) (cl : ByteArray) (pa : Option Addr) (l ca : Nat) (vs : Nat → Vl) (s : ByteArray) (x at' : Int) (t : ByteArray) (y : Int) (hy : -9223372036854775808 ≤ y ∧ y ≤ 9223372036854775807) (hf : fewB n ob = true) (hl50 : l ≤ 50) (w : World) (hO : Objs w ph n ob) (hV : Vals w pa l vs) :
    Calls Try.prog 3 #[.slice ph n ch, .string cl, .slice pa l ca, .agg #[.string s, .int .i64 x], .int .i64 at', .agg #[.string t, .int .i64 y]] w (AllTrue w) := by
  obtain ⟨hn, hl⟩ := few_n hf
  have HF := fun w1 (hb : Below w.heap.size w w1) => few_val ph n ch ob w1 (hO.below hb)
  rw [hf] at HF
  have hl3 : ∀ i, i < n → (ob i).l ≤ 1000 := fun i hi => by have := hl i hi; omega
  have HN := fun w1 (hb : Below w.heap.size w w1) => new_val ph n ch ob hn hl3 cl pa l ca vs (by omega) w1 (hO.below hb) (hV.below hb)
  have HRN := fun w1 (hb : Below w.heap.size w w1) => rnew_val ph n ch hz ob hn cl pa l ca vs (by omega) w1 (hO.below hb) (hV.below hb)
  have HS := fun w1 (hb : Below w.heap.size w w1) => store_val ph n ch ob (by omega) hl3 s x at' t y w1 (hO.below hb)
  have HRS := fun w1 (hb : Below w.heap.size w w1) => rstore_val ph n ch ob (by omega) hl3 s x at' t y hy w1 (hO.below hb)
  have hl2 : ∀ i, i < n → (putOb n ob (s, x) at' (t, y) i).l ≤ 20 := fun i hi => by rw [(putOb_c _ _ _ _ _ _).2]; exact hl i hi
  have hr0 : ∀ i, i < n → ∀ j, j < (ob i).l → -9223372036854775808 ≤ ((ob i).vs j).2 ∧ ((ob i).vs j).2 ≤ 9223372036854775807 := fun i hi => (hO.v i hi).r
  have hr := putOb_r (n := n) (ob := ob) (o := (s, x)) (at' := at') (v := (t, y)) hy hr0
  have hvr := hV.r
  rcases h1 : loadV n ob (s, x) at' with ⟨⟨r1, m1⟩, ok⟩
  have HL := fun w1 (hb : Below w.heap.size w w1) => load_val ph n ch ob s x at' r1 m1 ok h1 w1 (hO.below hb)
  have HRL := fun w1 (hb : Below w.heap.size w w1) => rload_val ph n ch ob s x at' r1 m1 ok h1 w1 (hO.below hb)
  rw [h1] at HS HRS
  clear h1 hf hO hV hz
  go_enter Try.func3, Try.ntmps3
  go_wp2_with fail
  refine (awake_val _).mono ?_
  rintro e w1 ⟨rfl, hb⟩
  obtain ⟨xo, xv, hB⟩ := boxes2 (c1 := [_, _]) (c2 := [_, _]) hb
  clear hb
  go_wp2_with fail
  refine (HF _ hB).mono ?_
  rintro e w2 ⟨rfl, rfl⟩
  clear HF
  go_wp2_with fail
  refine (HN _ hB).mono ?_
  rintro e w2 ⟨va, oa, rfl, hHa, hSa, hac, hal, hav, hb⟩
  have hB2 := bthen hB hb
  have xo := xo.nx hb
  have xv := xv.nx hb
  clear hb HN hB
  obtain ⟨pA, kA, rfl⟩ := hHa.row.slice
  have OA : ∀ w', Below w2.heap.size w2 w' → Objs w' pA (n + 1) oa := fun w' hb => (hHa.next hb (Nat.le_refl _)).objs (by omega) (fun i hi => by
      by_cases e : i = n
      · subst e; omega
      · rw [hSa.l (by omega)]; have := hl i (by omega); omega) (fun i hi j hj => by
      by_cases e : i = n
      · subst e
        rw [hav]
        exact hvr j (by omega)
      · rw [hSa.l (by omega)] at hj
        rw [(hSa i (by omega)).2.2]
        exact hr0 i (by omega) j hj)
  clear hHa
  have hB2' := hB2.alloc hB2.size (Obj.cells #[.string { data := #[114, 101, 102] }, .int .i64 ((n : Int) + 1)] 25)
  go_wp2_with fail
  refine (HRN _ hB2').mono ?_
  rintro e w3 ⟨vb, o3, rfl, hH3, hS3, h3c, h3l, h3v, hb⟩
  obtain ⟨x14, hb⟩ := boxes1 (c1 := [_, _]) hb
  have hB3 := bthen hB2 hb
  have xo := xo.nx hb
  have xv := xv.nx hb
  obtain ⟨p3, k3, rfl⟩ := hH3.row.slice
  have OA3 := OA _ hb
  have O3 := hH3.objs rfl (by omega)
  have S3 : SameAs (n + 1) o3 oa := hS3.last hSa (h3c.trans hac.symm) (h3l.trans hal.symm) (h3v.trans hav.symm)
  clear hb HRN hB2 hB2' OA hH3 hS3 hSa hac hal hav h3c h3l h3v
  have a0 := fun o => (xo.al o).c 0 _ rfl
  have a1 := fun o => (xo.al o).c 1 _ rfl
  have hB3' := hB3.alloc hB3.size (Obj.cells #[.string { data := #[114, 101, 102] }, .int .i64 ((n : Int) + 1)] 25)
  go_wp2_with fail
  refine (HL _ hB3').mono ?_
  rintro e w4 ⟨rfl, hb⟩
  obtain ⟨x16, hb⟩ := boxes1 (c1 := [_, _]) hb
  have hB4 := bthen hB3 hb
  have OA4 := OA3.below hb
  have O4 := O3.below hb
  have xo := xo.nx hb
  have xv := xv.nx hb
  have x14 := x14.nx hb
  clear hb HL hB3 hB3' OA3 O3 a0 a1
  have a0 := fun o => (xo.al o).c 0 _ rfl
  have a1 := fun o => (xo.al o).c 1 _ rfl
  have hB4' := hB4.alloc hB4.size (Obj.cells #[.string r1, .int .i64 m1] 25)
  go_wp2_with fail
  refine (HRL _ hB4').mono ?_
  rintro e w5 ⟨rfl, hb⟩
  obtain ⟨x17, hb⟩ := boxes1 (c1 := [_, _]) hb
  have hB5 := bthen hB4 hb
  have OA5 := OA4.below hb
  have O5 := O4.below hb
  have xo := xo.nx hb
  have xv := xv.nx hb
  have x14 := x14.nx hb
  have x16 := x16.nx hb
  clear hb HRL hB4 hB4' OA4 O4 a0 a1
  have a0 := fun o => (xo.al o).c 0 _ rfl
  have a1 := fun o => (xo.al o).c 1 _ rfl
  have v0 := fun o => (xv.al o).c 0 _ rfl
  have v1 := fun o => (xv.al o).c 1 _ rfl
  have hB5' := hB5.alloc hB5.size (Obj.cells #[.string r1, .int .i64 m1] 25)
  go_wp2_with fail
  refine (HS _ hB5').mono ?_
  rintro e w6 ⟨vc, oc, rfl, hHc, hSc, hb⟩
  obtain ⟨x19, hb⟩ := boxes1 (c1 := [_, _]) hb
  have hB6 := bthen hB5 hb
  have OA6 := OA5.below hb
  have O6 := O5.below hb
  have xo := xo.nx hb
  have xv := xv.nx hb
  have x14 := x14.nx hb
  have x16 := x16.nx hb
  have x17 := x17.nx hb
  obtain ⟨pc, kc, rfl⟩ := hHc.row.slice
  have OC : ∀ w', Below w6.heap.size w6 w' → Objs w' pc n oc := fun w' hb => (hHc.next hb (Nat.le_refl _)).objs (by omega) (fun i hi => by rw [hSc.l hi]; have := hl2 i hi; omega) (fun i hi j hj => by
      rw [hSc.l hi] at hj
      rw [(hSc i hi).2.2]
      exact hr i hi j hj)
  clear hb HS hB5 hB5' OA5 O5 a0 a1 v0 v1 hHc
  have a0 := xo.c 0 _ rfl
  have a1 := xo.c 1 _ rfl
  have v0 := xv.c 0 _ rfl
  have v1 := xv.c 1 _ rfl
  go_wp2_with fail
  refine (HRS _ hB6).mono ?_
  rintro e w7 ⟨pd, kd, od, rfl, O7d, hSd, hb⟩
  have hB7 := bthen hB6 hb
  have OA7 := OA6.below hb
  have O7 := O6.below hb
  have OC7 := OC _ hb
  have x14 := x14.nx hb
  have x16 := x16.nx hb
  have x17 := x17.nx hb
  have x19 := x19.nx hb
  have SD : SameAs n od oc := hSd.trans hSc.symm
  clear hb HRS hB6 OA6 O6 OC a0 a1 v0 v1 xo xv hSc hSd
  go_wp2_with fail
  refine (same_yes pA p3 (n + 1) kA k3 oa o3 S3 w7 OA7 O7).mono ?_
  rintro e w8 ⟨rfl, hb⟩
  have hB8 := bthen hB7 hb
  have O8c := OC7.below hb
  have O8d := O7d.below hb
  have x14 := x14.nx hb
  have x16 := x16.nx hb
  have x17 := x17.nx hb
  have x19 := x19.nx hb
  clear hb hB7 OA7 O7 OC7 O7d S3
  have a0 := x14.c 0 _ rfl
  have a1 := x14.c 1 _ rfl
  have b0 := x16.c 0 _ rfl
  have b1 := x16.c 1 _ rfl
  have c0 := x17.c 0 _ rfl
  have c1 := x17.c 1 _ rfl
  have d0 := x19.c 0 _ rfl
  have d1 := x19.c 1 _ rfl
  have hrr : (r1.toList == r1.toList) = true := by simp
  go_wp2_with fail
  refine (same_yes pc pd n kc kd oc od SD w8 O8c O8d).mono ?_
  rintro e w9 ⟨rfl, hb⟩
  have hB9 := bthen hB8 hb
  clear hb hB8 O8c O8d SD a0 a1 b0 b1 c0 c1 d0 d1 x14 x16 x17 x19
  go_wp2_with fail
  refine (nought_h cl _).mono ?_
  rintro e w10 ⟨rfl, hb⟩
  have hB10 := bthen hB9 hb
  clear hb hB9
  go_wp2_with fail
  refine (rnought_h cl _).mono ?_
  rintro e w11 ⟨rfl, hb⟩
  have hB11 := bthen hB10 hb
  clear hb hB10
  have hnn : ((noughtT cl).toList == (noughtT cl).toList) = true := by simp
  generalize noughtT cl = nc at *
  go_wp2
  go_ret
  exact ⟨rfl, hB11⟩
section
open Go.ChangeShapes Go.WideShapes Go.ChangeAt Go.Deep
variable (H : Type) (enc : TypeId × Value → H) (W : World) (base : Nat) (args : Array Value) (ds gs : List (DataW H)) (before : List MemPlace)
theorem heapActs_all (hval : ∀ (j : Nat) t v, Try.f3.params[j]? = some t → args[j]? = some v → Value.okWide Try.prog W .any base t v)
    (hW : DataW.Whole enc Try.prog Try.f3.params.toList Rows.heapActsSpec.vars false W args.toList ds gs before) :
    Calls Try.prog 3 args W fun e w' => e = .returned (.bool true) ∧ Below W.heap.size W w' := by
  obtain ⟨p, q, hA0, hV, rfl, _, _⟩ := hW
  have hA : DataW.TrodAll enc Try.prog W 0 (fun _ => true) true Try.f3.params.toList args.toList ds p := hA0
  rw [Try.params3] at hA hval
  obtain ⟨v0, vs0, d0, ds0, p0, q0, hargs, rfl, rfl, h0, r0⟩ := trodAll_cons hA
  obtain ⟨v1, vs1, d1, ds1, p1, q1, rfl, rfl, rfl, h1, r1⟩ := trodAll_cons r0
  obtain ⟨v2, vs2, d2, ds2, p2, q2, rfl, rfl, rfl, h2, r2⟩ := trodAll_cons r1
  obtain ⟨v3, vs3, d3, ds3, p3, q3, rfl, rfl, rfl, h3, r3⟩ := trodAll_cons r2
  obtain ⟨v4, vs4, d4, ds4, p4, q4, rfl, rfl, rfl, h4, r4⟩ := trodAll_cons r3
  obtain ⟨v5, vs5, d5, ds5, p5, q5, rfl, rfl, rfl, h5, r5⟩ := trodAll_cons r4
  obtain ⟨rfl, rfl, rfl⟩ := trodAll_nil r5
  obtain rfl : args = #[v0, v1, v2, v3, v4, v5] := by cases args; simp_all
  obtain ⟨ph, n, ch, ob, rfl, hO, hz⟩ := p_objs (hval 0 _ v0 rfl rfl) h0
  obtain ⟨cl, rfl, _, _, -⟩ := Go.ChangeMaps.open_string Try.underlying9 (hval 1 _ v1 rfl rfl) h1
  obtain ⟨pa, l, ca, vs, rfl, hVs, -⟩ := p_vals (hval 2 _ v2 rfl rfl) h2
  obtain ⟨s, x, rfl, -⟩ := open_val (hval 3 _ v3 rfl rfl) h3
  obtain ⟨at', rfl, _, _, -⟩ := open_int Try.underlying3 (hval 4 _ v4 rfl rfl) h4
  obtain ⟨t, y, rfl, hy⟩ := open_val (hval 5 _ v5 rfl rfl) h5
  by_cases hf : fewB n ob = true
  · by_cases hl : l ≤ 50
    · exact acts_main ph n ch hz ob cl pa l ca vs s x at' t y hy hf hl W hO hVs
    · exact acts_few ph n ch ob cl pa l ca s x at' t y hVs.m (.inr ⟨hf, by omega⟩) W hO
  · exact acts_few ph n ch ob cl pa l ca s x at' t y hVs.m (.inl (by simpa using hf)) W hO
end
end Go.Proofs.Ytndakhnplnamdaa
