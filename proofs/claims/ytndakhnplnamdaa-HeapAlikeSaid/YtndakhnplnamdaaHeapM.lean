/- lateenlaw15: awake. -/
import Derived.Test.YtndakhnplnamdaaHeapL
import Derived.Test.YtndakhnplnamdaaPairF
namespace Go.Proofs.Ytndakhnplnamdaa
open Go.RowKit

theorem HeapOwn.objs {w : World} {B n : Nat} {pu : Option Addr} {cu : Nat} {ob : Nat → ObjD} (h : HeapOwn w B (.slice pu n cu) n n ob) (hn : n ≤ 9223372036854775807) (hl : ∀ i, i < n → (ob i).l ≤ 9223372036854775807)
    (hr : ∀ i, i < n → ∀ j, j < (ob i).l → -9223372036854775808 ≤ ((ob i).vs j).2 ∧ ((ob i).vs j).2 ≤ 9223372036854775807) : Objs w pu n ob :=
  { at' := fun h0 => by
      obtain ⟨g, cu', e, hg, hlt, hcu, hc, hf⟩ := h.row.at h0
      simp only [Value.slice.injEq] at e
      obtain ⟨rfl, -⟩ := e
      exact ⟨g, 0, rfl, hlt, fun i hi => ⟨by rw [Nat.zero_add]; exact hc i 0 hi (by decide), by rw [Nat.zero_add]; exact hc i 1 hi (by decide)⟩⟩
    v := fun i hi => (h.vals i hi).vals (hl i hi) (hr i hi)
    m := hn }
def vRef (k : Int) : Nat → Vl := fun _ => ({ data := #[114, 101, 102] }, k)
def obOne (p : Option Addr) (k : Int) : ObjD := ⟨{ data := #[80] }, p, 1, 1, vRef k⟩
def obSelf (p : Option Addr) : Nat → ObjD := fun _ => obOne p 1
def obTwo (p q : Option Addr) : Nat → ObjD := fun i => if i = 0 then obOne p 2 else obOne q 1
theorem isRef_ref : isRef { data := #[114, 101, 102] } = true := by
  unfold isRef
  rw [ByteArray.toList_eq]
  rfl
theorem leads_one {n : Nat} {k : Int} (h1 : 1 ≤ k) (h2 : k ≤ (n : Int)) : leadsB n ({ data := #[114, 101, 102] }, k) = true := by
  unfold leadsB
  rw [isRef_ref]
  simp [h1, h2]
theorem okV_ref {n m : Nat} {R : Rel2} {x y : Int} (h1 : 1 ≤ x) (h2 : x ≤ (n : Int)) (h3 : 1 ≤ y) (h4 : y ≤ (m : Int)) (hR : R x y) : OkV n m R ({ data := #[114, 101, 102] }, x) ({ data := #[114, 101, 102] }, y) where
  t := rfl
  p := fun h => by rw [isRef_ref] at h; cases h
  ld := fun _ => by rw [leads_one h1 h2, leads_one h3 h4]
  z := fun _ => by dsimp only; omega
  g := fun _ => hR
theorem self_two (p q r : Option Addr) : ¬ AlikeP 1 2 (obSelf p) (obTwo q r) 1 1 (vRef 1) (vRef 1) := by
  rintro ⟨_, R, hR⟩
  have h1 : R 1 1 := (hR.v 0 (by decide)).g (leads_one (by decide) (by decide))
  have h2 : R 1 2 := ((hR.o 1 1 h1).v 0 (Nat.zero_lt_one)).g (leads_one (by decide) (by decide))
  have := hR.f.l _ _ _ h1 h2
  omega
theorem two_two (q r : Option Addr) : AlikeP 2 2 (obTwo q r) (obTwo q r) 1 1 (vRef 1) (vRef 2) := by
  refine ⟨rfl, fun x y => (x = 1 ∧ y = 2) ∨ (x = 2 ∧ y = 1), ⟨⟨?_, ?_⟩, ?_, ?_, ?_⟩⟩
  · intro x y y' h1 h2; omega
  · intro x x' y h1 h2; omega
  · intro x y h; unfold InR; omega
  · rintro x y (⟨rfl, rfl⟩ | ⟨rfl, rfl⟩)
    · refine ⟨rfl, rfl, fun j hj => ?_⟩
      exact okV_ref (by decide) (by decide) (by decide) (by decide) (.inr ⟨rfl, rfl⟩)
    · refine ⟨rfl, rfl, fun j hj => ?_⟩
      exact okV_ref (by decide) (by decide) (by decide) (by decide) (.inl ⟨rfl, rfl⟩)
  · intro j hj
    exact okV_ref (by decide) (by decide) (by decide) (by decide) (.inl ⟨rfl, rfl⟩)
theorem Box.valsRef {w : World} {p : Nat} {k : Int} (h : Box w p [.string { data := #[114, 101, 102] }, .int .i64 k]) (hk : -9223372036854775808 ≤ k ∧ k ≤ 9223372036854775807) : Vals w (some ⟨p, 0, none⟩) 1 (vRef k) :=
  { at' := fun _ => ⟨p, 0, rfl, h.lt, fun i hi => by
      obtain rfl : i = 0 := by omega
      exact ⟨h.c 0 _ rfl, h.c 1 _ rfl⟩⟩
    r := fun _ _ => hk
    m := by decide }
theorem Box.objSelf {w : World} {p a : Nat} (h : Box w p [.string { data := #[80] }, .slice (some ⟨a, 0, none⟩) 1 1]) (ha : Box w a [.string { data := #[114, 101, 102] }, .int .i64 1]) : Objs w (some ⟨p, 0, none⟩) 1 (obSelf (some ⟨a, 0, none⟩)) :=
  { at' := fun _ => ⟨p, 0, rfl, h.lt, fun i hi => by
      obtain rfl : i = 0 := by omega
      exact ⟨h.c 0 _ rfl, h.c 1 _ rfl⟩⟩
    v := fun _ _ => ha.valsRef (by decide)
    m := by decide }
theorem Box.objTwo {w : World} {p a b : Nat} (h : Box w p [.string { data := #[80] }, .slice (some ⟨a, 0, none⟩) 1 1, .string { data := #[80] }, .slice (some ⟨b, 0, none⟩) 1 1]) (ha : Box w a [.string { data := #[114, 101, 102] }, .int .i64 2]) (hb : Box w b [.string { data := #[114, 101, 102] }, .int .i64 1]) :
    Objs w (some ⟨p, 0, none⟩) 2 (obTwo (some ⟨a, 0, none⟩) (some ⟨b, 0, none⟩)) :=
  { at' := fun _ => ⟨p, 0, rfl, h.lt, fun i hi => by
      rcases (by omega : i = 0 ∨ i = 1) with rfl | rfl
      · exact ⟨h.c 0 _ rfl, h.c 1 _ rfl⟩
      · exact ⟨h.c 2 _ rfl, h.c 3 _ rfl⟩⟩
    v := fun i hi => by
      rcases (by omega : i = 0 ∨ i = 1) with rfl | rfl
      · exact ha.valsRef (by decide)
      · exact hb.valsRef (by decide)
    m := by decide }
def vInt (k : Int) : Nat → Vl := fun _ => ({ data := #[105, 110, 116] }, k)
theorem Box.valsInt {w : World} {p : Nat} (h : Box w p [.string { data := #[105, 110, 116] }, .int .i64 5]) : Vals w (some ⟨p, 0, none⟩) 1 (vInt 5) :=
  { at' := fun _ => ⟨p, 0, rfl, h.lt, fun i hi => by
      obtain rfl : i = 0 := by omega
      exact ⟨h.c 0 _ rfl, h.c 1 _ rfl⟩⟩
    r := fun _ _ => by show -9223372036854775808 ≤ (5 : Int) ∧ (5 : Int) ≤ 9223372036854775807; decide
    m := by decide }
theorem noObjs (w : World) (ob : Nat → ObjD) : Objs w none 0 ob := ⟨fun h => absurd h (Nat.lt_irrefl 0), fun i hi => absurd hi (Nat.not_lt_zero i), by decide⟩

set_option maxHeartbeats 4000000 in
theorem awake_val (w : World) : Calls Try.prog 8 #[] w fun e w' => e = .returned (.bool true) ∧ Below w.heap.size w w' := by
  go_enter Try.func8, Try.ntmps8
  go_wp2_with fail
  refine (to_val 1 _).mono ?_
  rintro e w1 ⟨rfl, hb1⟩
  go_wp2_with fail
  refine (to_val 2 _).mono ?_
  rintro e w2 ⟨rfl, hb2⟩
  obtain ⟨xA, xS, hb2⟩ := boxes2 (c1 := [_, _]) (c2 := [_, _]) hb2
  have hB2 := bthen hb1 hb2
  clear hb1 hb2
  go_wp2_with fail
  refine (to_val 1 _).mono ?_
  rintro e w3 ⟨rfl, hb3⟩
  obtain ⟨xC, hb3⟩ := boxes1 (c1 := [_, _]) hb3
  have hB3 := bthen hB2 hb3
  have xA := xA.nx hb3
  have xS := xS.nx hb3
  clear hb3
  go_wp2_with fail
  refine (new_val none 0 0 (obSelf none) (by decide) (fun i hi => absurd hi (Nat.not_lt_zero i)) _ _ 1 1 (vInt 5) (by decide) _ (noObjs _ _) ?hv).mono ?_
  case hv => exact ((boxes3 (c1 := [_, _]) (c2 := [_, _, _, _]) (c3 := [_, _]) (Below.refl _ _)).2.2.1).valsInt
  rintro e w4 ⟨v4, o4, rfl, hH4, -, h4c, h4l, h4v, hb4⟩
  obtain ⟨xD, xT, -, hb4⟩ := boxes3 (c1 := [_, _]) (c2 := [_, _, _, _]) (c3 := [_, _]) hb4
  have hB4 := bthen hB3 hb4
  have xA := xA.nx hb4
  have xS := xS.nx hb4
  have xC := xC.nx hb4
  clear hb4
  obtain ⟨p4, k4, rfl⟩ := hH4.row.slice
  have O4 : ∀ w', Below w4.heap.size w4 w' → Objs w' p4 1 o4 := fun w' hb => by
    refine (hH4.next hb (Nat.le_refl _)).objs (by decide) (fun i hi => ?_) (fun i hi j hj => ?_)
    · obtain rfl : i = 0 := by omega
      rw [h4l]; decide
    · obtain rfl : i = 0 := by omega
      rw [h4v]
      show -9223372036854775808 ≤ (5 : Int) ∧ (5 : Int) ≤ 9223372036854775807
      decide
  have L4 : loadV 1 o4 ({ data := #[114, 101, 102] }, 1) 0 = (({ data := #[105, 110, 116] }, 5), true) := by
    unfold loadV
    rw [if_pos ⟨leads_one (by decide) (by decide), by decide, by show (0 : Int) < ((o4 0).l : Int); rw [h4l]; decide⟩]
    show ((o4 0).vs 0, true) = _
    rw [h4v]
    rfl
  have S4 : ∀ w', Below w4.heap.size w4 w' → Objs w' (some ⟨w1.heap.size + 1, 0, none⟩) 1 (obSelf (some ⟨w1.heap.size, 0, none⟩)) ∧ Objs w' (some ⟨w3.heap.size + 1, 0, none⟩) 2 (obTwo (some ⟨w2.heap.size, 0, none⟩) (some ⟨w3.heap.size, 0, none⟩)) := fun w' hb =>
    ⟨(xS.nx hb).objSelf (xA.nx hb), (xT.nx hb).objTwo (xC.nx hb) (xD.nx hb)⟩
  clear xA xS xC xD xT hH4 hb2 hb3 hB2 hB3 h4c
  go_wp2_with fail
  refine (load_val p4 1 k4 o4 _ 1 0 _ 5 true L4 _ (O4 _ ((Below.refl _ _).alloc (Nat.le_refl _) _))).mono ?_
  rintro e w5 ⟨rfl, hb5⟩
  obtain ⟨xV, hb5⟩ := boxes1 (c1 := [_, _]) hb5
  have b0 := xV.c 0 _ rfl
  have b1 := xV.c 1 _ rfl
  have b0' := fun o => (xV.al o).c 0 _ rfl
  have b1' := fun o => (xV.al o).c 1 _ rfl
  go_wp2_with fail
  refine (store_val p4 1 k4 o4 (by decide) (fun i hi => by (obtain rfl : i = 0 := (by omega)); rw [h4l]; decide) _ 1 0 _ 6 _ (O4 _ (hb5.alloc hb5.size _))).mono ?_
  rintro e w6 ⟨v6, o6, rfl, hH6, hS6, hb6⟩
  rw [L4]
  obtain ⟨xU, hb6⟩ := boxes1 (c1 := [_, _]) hb6
  have hb46 := bthen hb5 hb6
  have xV := xV.nx hb6
  obtain ⟨p6, k6, rfl⟩ := hH6.row.slice
  obtain ⟨-, h6l, h6v⟩ := hS6 0 (by decide)
  rw [(putOb_c _ _ _ _ _ _).2, h4l] at h6l
  have h6v : (o6 0).vs 0 = ({ data := #[105, 110, 116] }, 6) := by
    rw [h6v]
    unfold putOb
    rw [L4]
    rfl
  have O6 : ∀ w', Below w6.heap.size w6 w' → Objs w' p6 1 o6 := fun w' hb => by
    refine (hH6.next hb (Nat.le_refl _)).objs (by decide) (fun i hi => ?_) (fun i hi j hj => ?_)
    · obtain rfl : i = 0 := by omega
      rw [h6l]; decide
    · obtain rfl : i = 0 := by omega
      rw [h6l] at hj
      obtain rfl : j = 0 := by omega
      rw [h6v]
      show -9223372036854775808 ≤ (6 : Int) ∧ (6 : Int) ≤ 9223372036854775807
      decide
  have L6 : loadV 1 o6 ({ data := #[114, 101, 102] }, 1) 0 = (({ data := #[105, 110, 116] }, 6), true) := by
    unfold loadV
    rw [if_pos ⟨leads_one (by decide) (by decide), by decide, by show (0 : Int) < ((o6 0).l : Int); rw [h6l]; decide⟩]
    show ((o6 0).vs 0, true) = _
    rw [h6v]
  clear O4 hS6 hb5 hb6 h6l h6v hH6 h4l h4v b0 b1 b0' b1' L4
  have b0 := xV.c 0 _ rfl
  have b1 := xV.c 1 _ rfl
  go_wp2_with fail
  refine (load_val p6 1 k6 o6 _ 1 0 _ 6 true L6 _ (O6 _ (Below.refl _ _))).mono ?_
  rintro e w7 ⟨rfl, hb7⟩
  have hb47 := bthen hb46 hb7
  have xU := xU.nx hb7
  clear O6 L6 b0 b1 xV hb46 hb7
  go_wp2_with fail
  refine (to_val 1 _).mono ?_
  rintro e w8 ⟨rfl, hb8⟩
  obtain ⟨xW, hb8⟩ := boxes1 (c1 := [_, _]) hb8
  have hb48 := bthen hb47 hb8
  have xU := xU.nx hb8
  clear hb47 hb8
  go_wp2_with fail
  refine (to_val 1 _).mono ?_
  rintro e w9 ⟨rfl, hb9⟩
  obtain ⟨xX, hb9⟩ := boxes1 (c1 := [_, _]) hb9
  have hb49 := bthen hb48 hb9
  have xU := xU.nx hb9
  have xW := xW.nx hb9
  clear hb48 hb9
  have hx := hb49.alloc hb49.size (Obj.cells #[.string { data := #[114, 101, 102] }, .int .i64 1] 25)
  go_wp2_with fail
  refine (alike_val (by decide) (by decide) _ _ (vRef 1) (vRef 1) _ (S4 _ hx).1 (S4 _ hx).2 ((xX.al _).valsRef (by decide)) ((Box.alloc w9 [.string { data := #[114, 101, 102] }, .int .i64 1] 25).valsRef (by decide))).mono ?_
  rintro e w10 ⟨b, rfl, hiff, hb10⟩
  have e0 : b = false := by
    cases b with
    | false => rfl
    | true => exact absurd (hiff.1 rfl) (self_two _ _ _)
  subst e0
  obtain ⟨-, hb10⟩ := boxes1 (c1 := [_, _]) hb10
  have hb410 := bthen hb49 hb10
  have xU := xU.nx hb10
  have xW := xW.nx hb10
  clear hb49 hb10 hiff hx xX
  go_wp2_with fail
  refine (to_val 1 _).mono ?_
  rintro e w11 ⟨rfl, hb11⟩
  have hb411 := bthen hb410 hb11
  have xU := xU.nx hb11
  have xW := xW.nx hb11
  clear hb410 hb11
  go_wp2_with fail
  refine (to_val 2 _).mono ?_
  rintro e w12 ⟨rfl, hb12⟩
  obtain ⟨xX, hb12⟩ := boxes1 (c1 := [_, _]) hb12
  have hb412 := bthen hb411 hb12
  have xU := xU.nx hb12
  have xW := xW.nx hb12
  clear hb411 hb12
  have hx := hb412.alloc hb412.size (Obj.cells #[.string { data := #[114, 101, 102] }, .int .i64 2] 25)
  go_wp2_with fail
  refine (alike_val (by decide) (by decide) _ _ (vRef 1) (vRef 2) _ (S4 _ hx).2 (S4 _ hx).2 ((xX.al _).valsRef (by decide)) ((Box.alloc w12 [.string { data := #[114, 101, 102] }, .int .i64 2] 25).valsRef (by decide))).mono ?_
  rintro e w13 ⟨b, rfl, hiff, hb13⟩
  have e0 : b = true := hiff.2 (two_two _ _)
  subst e0
  obtain ⟨-, hb13⟩ := boxes1 (c1 := [_, _]) hb13
  have hb413 := bthen hb412 hb13
  have xU := xU.nx hb13
  have xW := xW.nx hb13
  clear hb412 hb13 hiff hx xX S4
  have c1 := xU.c 1 _ rfl
  have d1 := xW.c 1 _ rfl
  have nP : noughtT { data := #[80] } = { data := #[114, 101, 102] } := by
    unfold noughtT
    rw [if_neg (by rw [ByteArray.toList_eq]; decide)]
  have nF : noughtT { data := #[102, 108, 111, 97, 116] } = { data := #[102, 108, 111, 97, 116] } := by
    unfold noughtT
    rw [if_pos (by rw [ByteArray.toList_eq]; decide)]
  have HP := nought_h { data := #[80] }
  have HF := nought_h { data := #[102, 108, 111, 97, 116] }
  rw [nP] at HP
  rw [nF] at HF
  clear nP nF
  go_wp2_with fail
  refine (HP _).mono ?_
  rintro e w14 ⟨rfl, hb14⟩
  go_wp2_with fail
  refine (to_val 0 _).mono ?_
  rintro e w15 ⟨rfl, hb15⟩
  go_wp2_with fail
  refine (HF _).mono ?_
  rintro e w16 ⟨rfl, hb16⟩
  have hfin := bthen hB4 (bthen hb413 (bthen hb14 (bthen hb15 hb16)))
  clear hB4 hb413 hb14 hb15 hb16
  go_wp2
  go_ret
  exact ⟨rfl, hfin⟩
end Go.Proofs.Ytndakhnplnamdaa
