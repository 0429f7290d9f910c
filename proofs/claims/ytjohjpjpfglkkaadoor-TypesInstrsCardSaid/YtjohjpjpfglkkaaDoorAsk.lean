/- types.ask: an instruction's types. -/
import Derived.Test.YtjohjpjpfglkkaaDoorVar
import Derived.Test.YtjohjpjpfglkkaaDoorFrm
import Derived.Test.YtjohjpjpfglkkaaDoorCnu
import Derived.Test.YtjohjpjpfglkkaaDoorApp
namespace Go.Proofs.YtjohjpjpfglkkaaDoor
open Go.RowKit

def tysOf (f : Fn) : List Ag → Option (List ByteArray)
  | [] => some []
  | a :: r => match tyOf f a with
    | none => none
    | some t => match tysOf f r with
      | none => none
      | some l => some (t :: l)
def dstOf (f : Fn) (x : Is) (fm : Fm) : Option ByteArray := if fm.d then (varOf f x.d).map Vr.t else some ⟨#[]⟩
def askOf (f : Fn) (x : Is) : Option (ByteArray × List ByteArray) := match formOf x.op with
  | none => none
  | some fm => if (x.as.length : Int) < fm.l ∨ fm.m < x.as.length then none else match dstOf f x fm with
    | none => none
    | some d => match tysOf f x.as with
      | none => none
      | some l => some (d, l)
/-- an instruction with its types -/
structure ValQ (w0 w : World) (v : Value) (p : Pg) (x : Is) (d : ByteArray) (l : List ByteArray) (u1 u2 u3 u4 v1 v2 v3 t : Value) : Prop where
  e : v = .agg #[.bool p.ssa, u1, u2, u3, u4, .int .i64 x.op, .string x.d, .string x.n, v1, v2, v3, .string d, t]
  p : ValP w0 (.agg #[.bool p.ssa, u1, u2, u3, u4]) p u1 u2 u3 u4
  x : ValI w0 (.agg #[.int .i64 x.op, .string x.d, .string x.n, v1, v2, v3]) x v1 v2 v3
  z : Sz d
  t : Row AtS 1 w t l
def OutAsk (w0 w' : World) (p : Pg) (x : Is) (r : Option (ByteArray × List ByteArray)) (e : Ending) : Prop := match r with
  | some (d, l) => ∃ v u1 u2 u3 u4 v1 v2 v3 t, e = .returned (.tuple #[v, .bool true]) ∧ ValQ w0 w' v p x d l u1 u2 u3 u4 v1 v2 v3 t
  | none => e = .returned (.tuple #[.agg #[.bool false, .slice none 0 0, .slice none 0 0, .slice none 0 0, .slice none 0 0, .int .i64 0, .string ⟨#[]⟩, .string ⟨#[]⟩, .slice none 0 0, .slice none 0 0, .slice none 0 0, .string ⟨#[]⟩, .slice none 0 0], .bool false])
theorem infoStr : (Tryd.prog.info? 9).map (fun i => (i.zero, i.size, i.bytes)) = some (some (.string .empty), 1, 16) := by kernel_rfl
theorem strs_one (w : World) (s : ByteArray) : ∀ j u, ([Value.string s])[j]? = some u → (w.alloc (Obj.cells #[.string s] 9)).cell? ((⟨w.heap.size, 0, none⟩ : Addr).add j) = some u := by
  intro j u hu
  rw [add_at, Nat.zero_add, World.cell?_alloc_mark]
  simpa using hu
theorem own_strs {w : World} {B : Nat} {T : TypeId} {v : Value} {l : List ByteArray} (h : w.ownsRow B T 1 v l.length (l.map .string)) (hz : ∀ s ∈ l, Sz s) (hn : l.length ≤ 140737488351232) : Row AtS 1 w v l := by
  rcases h.2 with ⟨rfl, h0⟩ | ⟨g, cap, cur, rfl, _⟩
  · refine ⟨none, 0, by rw [h0], fun _ => ⟨h0, rfl⟩, hn, fun i x hx => ?_⟩
    have : l = [] := List.length_eq_zero_iff.1 h0
    subst this
    cases hx
  · refine ⟨some ⟨g, 0, none⟩, cap, rfl, (fun e => by cases e), hn, fun i x hx => ⟨_, rfl, ?_, hz x (List.mem_of_getElem? hx)⟩⟩
    rw [Nat.mul_one]
    exact h.cells rfl i _ (by simp [hx])
theorem sz0 : Sz ⟨#[]⟩ := by unfold Sz; decide
theorem put13 {B p : Nat} {a w : World} (h : Below B a w) (hB : B ≤ p) (x0 x1 x2 x3 x4 x5 x6 x7 x8 x9 x10 x11 x12 : Value) : Below B a (((((((((((((w.setCell ⟨p, 0, none⟩ x0).setCell ⟨p, 1, none⟩ x1).setCell ⟨p, 2, none⟩ x2).setCell ⟨p, 3, none⟩ x3).setCell ⟨p, 4, none⟩ x4).setCell ⟨p, 5, none⟩ x5).setCell ⟨p, 6, none⟩ x6).setCell ⟨p, 7, none⟩ x7).setCell ⟨p, 8, none⟩ x8).setCell ⟨p, 9, none⟩ x9).setCell ⟨p, 10, none⟩ x10).setCell ⟨p, 11, none⟩ x11).setCell ⟨p, 12, none⟩ x12) := (((((((((((((h.setCell (p := ⟨p, 0, none⟩) hB x0).setCell (p := ⟨p, 1, none⟩) hB x1).setCell (p := ⟨p, 2, none⟩) hB x2).setCell (p := ⟨p, 3, none⟩) hB x3).setCell (p := ⟨p, 4, none⟩) hB x4).setCell (p := ⟨p, 5, none⟩) hB x5).setCell (p := ⟨p, 6, none⟩) hB x6).setCell (p := ⟨p, 7, none⟩) hB x7).setCell (p := ⟨p, 8, none⟩) hB x8).setCell (p := ⟨p, 9, none⟩) hB x9).setCell (p := ⟨p, 10, none⟩) hB x10).setCell (p := ⟨p, 11, none⟩) hB x11).setCell (p := ⟨p, 12, none⟩) hB x12)
theorem own13 {B p : Nat} {w : World} {e : TypeId} {s n : Nat} {v : Value} {xs : List Value} (h : w.ownsRow B e s v n xs) (hne : v.ownBlock ≠ some p) (x0 x1 x2 x3 x4 x5 x6 x7 x8 x9 x10 x11 x12 : Value) : (((((((((((((w.setCell ⟨p, 0, none⟩ x0).setCell ⟨p, 1, none⟩ x1).setCell ⟨p, 2, none⟩ x2).setCell ⟨p, 3, none⟩ x3).setCell ⟨p, 4, none⟩ x4).setCell ⟨p, 5, none⟩ x5).setCell ⟨p, 6, none⟩ x6).setCell ⟨p, 7, none⟩ x7).setCell ⟨p, 8, none⟩ x8).setCell ⟨p, 9, none⟩ x9).setCell ⟨p, 10, none⟩ x10).setCell ⟨p, 11, none⟩ x11).setCell ⟨p, 12, none⟩ x12).ownsRow B e s v n xs := (World.ownsRow.kept (World.ownsRow.kept (World.ownsRow.kept (World.ownsRow.kept (World.ownsRow.kept (World.ownsRow.kept (World.ownsRow.kept (World.ownsRow.kept (World.ownsRow.kept (World.ownsRow.kept (World.ownsRow.kept (World.ownsRow.kept (World.ownsRow.kept h (grown_setCell _ p 0 x0) (.inr hne)) (grown_setCell _ p 1 x1) (.inr hne)) (grown_setCell _ p 2 x2) (.inr hne)) (grown_setCell _ p 3 x3) (.inr hne)) (grown_setCell _ p 4 x4) (.inr hne)) (grown_setCell _ p 5 x5) (.inr hne)) (grown_setCell _ p 6 x6) (.inr hne)) (grown_setCell _ p 7 x7) (.inr hne)) (grown_setCell _ p 8 x8) (.inr hne)) (grown_setCell _ p 9 x9) (.inr hne)) (grown_setCell _ p 10 x10) (.inr hne)) (grown_setCell _ p 11 x11) (.inr hne)) (grown_setCell _ p 12 x12) (.inr hne))

set_option maxHeartbeats 32000000 in
set_option maxRecDepth 100000 in
theorem ask_val {w0 w : World} (h0 : Below w0.heap.size w0 w) {p : Pg} {vp u1 u2 u3 u4 : Value} (hp : ValP w0 vp p u1 u2 u3 u4) {f : Fn} {vf g1 g2 g3 : Value} (hf : ValF w0 vf f g1 g2 g3) {x : Is} {vx y1 y2 y3 : Value} (hx : ValI w0 vx x y1 y2 y3) :
    Calls Tryd.prog 14 #[vp, vf, vx] w fun e w' => Below w.heap.size w w' ∧ OutAsk w0 w' p x (askOf f x) e := by
  have hpv := hp
  have hfv := hf
  have hxv := hx
  obtain ⟨iS, hj, hy0, hy1, hy2⟩ := info_parts infoStr
  obtain ⟨rfl, hpc, hpg, hpx, hpf⟩ := hp
  obtain ⟨a1, k1, rfl⟩ := hpc.slice
  obtain ⟨a2, k2, rfl⟩ := hpg.slice
  obtain ⟨a3, k3, rfl⟩ := hpx.slice
  obtain ⟨a4, k4, rfl⟩ := hpf.slice
  clear hpc hpg hpx hpf
  obtain ⟨rfl, hfz, hfp, hfw, hfb⟩ := hf
  obtain ⟨b1, l1, rfl⟩ := hfp.slice
  obtain ⟨b2, l2, rfl⟩ := hfw.slice
  obtain ⟨b3, l3, rfl⟩ := hfb.slice
  clear hfp hfw hfb hfz
  obtain ⟨rfl, hxz, hxa, hxf, hxo⟩ := hx
  obtain ⟨c1, m1, rfl, -, hxn, hxa⟩ := hxa
  obtain ⟨c2, m2, rfl⟩ := hxf.slice
  obtain ⟨c3, m3, rfl⟩ := hxo.slice
  clear hxf hxo hxz
  have hb1 := (Below.refl w.heap.size w).alloc (Nat.le_refl _) (.cells #[.bool p.ssa, .slice a1 p.cs.length k1, .slice a2 p.gs.length k2, .slice a3 p.xs.length k3, .slice a4 p.fs.length k4] 27)
  have hb2 := hb1.alloc hb1.size (.cells #[.string f.n, .string f.r, .slice b1 f.ps.length l1, .slice b2 f.vs.length l2, .slice b3 f.bs.length l3] 30)
  have hb3 := hb2.alloc hb2.size (.cells #[.int .i64 x.op, .string x.d, .string x.n, .slice c1 x.as.length m1, .slice c2 x.fr.length m2, .slice c3 x.ob.length m3] 35)
  have hb4 := hb3.alloc hb3.size (.cells #[.bool false, .slice none 0 0, .slice none 0 0, .slice none 0 0, .slice none 0 0, .int .i64 0, .string ⟨#[]⟩, .string ⟨#[]⟩, .slice none 0 0, .slice none 0 0, .slice none 0 0, .string ⟨#[]⟩, .slice none 0 0] 52)
  have z1 : (w.alloc (.cells #[.bool p.ssa, .slice a1 p.cs.length k1, .slice a2 p.gs.length k2, .slice a3 p.xs.length k3, .slice a4 p.fs.length k4] 27)).heap.size = w.heap.size + 1 := by simp
  have z2 : ((w.alloc (.cells #[.bool p.ssa, .slice a1 p.cs.length k1, .slice a2 p.gs.length k2, .slice a3 p.xs.length k3, .slice a4 p.fs.length k4] 27)).alloc (.cells #[.string f.n, .string f.r, .slice b1 f.ps.length l1, .slice b2 f.vs.length l2, .slice b3 f.bs.length l3] 30)).heap.size = w.heap.size + 1 + 1 := by simp
  have z3 : (((w.alloc (.cells #[.bool p.ssa, .slice a1 p.cs.length k1, .slice a2 p.gs.length k2, .slice a3 p.xs.length k3, .slice a4 p.fs.length k4] 27)).alloc (.cells #[.string f.n, .string f.r, .slice b1 f.ps.length l1, .slice b2 f.vs.length l2, .slice b3 f.bs.length l3] 30)).alloc (.cells #[.int .i64 x.op, .string x.d, .string x.n, .slice c1 x.as.length m1, .slice c2 x.fr.length m2, .slice c3 x.ob.length m3] 35)).heap.size = w.heap.size + 1 + 1 + 1 := by simp
  have hP := (((Box.alloc w [.bool p.ssa, .slice a1 p.cs.length k1, .slice a2 p.gs.length k2, .slice a3 p.xs.length k3, .slice a4 p.fs.length k4] 27).al (.cells #[.string f.n, .string f.r, .slice b1 f.ps.length l1, .slice b2 f.vs.length l2, .slice b3 f.bs.length l3] 30)).al (.cells #[.int .i64 x.op, .string x.d, .string x.n, .slice c1 x.as.length m1, .slice c2 x.fr.length m2, .slice c3 x.ob.length m3] 35)).al (.cells #[.bool false, .slice none 0 0, .slice none 0 0, .slice none 0 0, .slice none 0 0, .int .i64 0, .string ⟨#[]⟩, .string ⟨#[]⟩, .slice none 0 0, .slice none 0 0, .slice none 0 0, .string ⟨#[]⟩, .slice none 0 0] 52)
  have hF := ((Box.alloc (w.alloc (.cells #[.bool p.ssa, .slice a1 p.cs.length k1, .slice a2 p.gs.length k2, .slice a3 p.xs.length k3, .slice a4 p.fs.length k4] 27)) [.string f.n, .string f.r, .slice b1 f.ps.length l1, .slice b2 f.vs.length l2, .slice b3 f.bs.length l3] 30).al (.cells #[.int .i64 x.op, .string x.d, .string x.n, .slice c1 x.as.length m1, .slice c2 x.fr.length m2, .slice c3 x.ob.length m3] 35)).al (.cells #[.bool false, .slice none 0 0, .slice none 0 0, .slice none 0 0, .slice none 0 0, .int .i64 0, .string ⟨#[]⟩, .string ⟨#[]⟩, .slice none 0 0, .slice none 0 0, .slice none 0 0, .string ⟨#[]⟩, .slice none 0 0] 52)
  have hI := (Box.alloc ((w.alloc (.cells #[.bool p.ssa, .slice a1 p.cs.length k1, .slice a2 p.gs.length k2, .slice a3 p.xs.length k3, .slice a4 p.fs.length k4] 27)).alloc (.cells #[.string f.n, .string f.r, .slice b1 f.ps.length l1, .slice b2 f.vs.length l2, .slice b3 f.bs.length l3] 30)) [.int .i64 x.op, .string x.d, .string x.n, .slice c1 x.as.length m1, .slice c2 x.fr.length m2, .slice c3 x.ob.length m3] 35).al (.cells #[.bool false, .slice none 0 0, .slice none 0 0, .slice none 0 0, .slice none 0 0, .int .i64 0, .string ⟨#[]⟩, .string ⟨#[]⟩, .slice none 0 0, .slice none 0 0, .slice none 0 0, .string ⟨#[]⟩, .slice none 0 0] 52)
  have hQ := Box.alloc (((w.alloc (.cells #[.bool p.ssa, .slice a1 p.cs.length k1, .slice a2 p.gs.length k2, .slice a3 p.xs.length k3, .slice a4 p.fs.length k4] 27)).alloc (.cells #[.string f.n, .string f.r, .slice b1 f.ps.length l1, .slice b2 f.vs.length l2, .slice b3 f.bs.length l3] 30)).alloc (.cells #[.int .i64 x.op, .string x.d, .string x.n, .slice c1 x.as.length m1, .slice c2 x.fr.length m2, .slice c3 x.ob.length m3] 35)) [.bool false, .slice none 0 0, .slice none 0 0, .slice none 0 0, .slice none 0 0, .int .i64 0, .string ⟨#[]⟩, .string ⟨#[]⟩, .slice none 0 0, .slice none 0 0, .slice none 0 0, .string ⟨#[]⟩, .slice none 0 0] 52
  rw [z1] at hF
  rw [z2] at hI
  rw [z3] at hQ
  clear hb1 hb2 hb3 z1 z2 z3
  have hw3 : w.heap.size ≤ w.heap.size + 1 + 1 + 1 := by omega
  have hO := form_val x.op ((((w.alloc (.cells #[.bool p.ssa, .slice a1 p.cs.length k1, .slice a2 p.gs.length k2, .slice a3 p.xs.length k3, .slice a4 p.fs.length k4] 27)).alloc (.cells #[.string f.n, .string f.r, .slice b1 f.ps.length l1, .slice b2 f.vs.length l2, .slice b3 f.bs.length l3] 30)).alloc (.cells #[.int .i64 x.op, .string x.d, .string x.n, .slice c1 x.as.length m1, .slice c2 x.fr.length m2, .slice c3 x.ob.length m3] 35)).alloc (.cells #[.bool false, .slice none 0 0, .slice none 0 0, .slice none 0 0, .slice none 0 0, .int .i64 0, .string ⟨#[]⟩, .string ⟨#[]⟩, .slice none 0 0, .slice none 0 0, .slice none 0 0, .string ⟨#[]⟩, .slice none 0 0] 52))
  obtain ⟨R, hR⟩ : ∃ R, R = askOf f x := ⟨_, rfl⟩
  rw [← hR]
  unfold askOf at hR
  go_enter Tryd.func14, Tryd.ntmps14
  go_wp2_with fail
  refine hO.mono ?_
  rintro e w1 ⟨hb5, ho⟩
  have hb := bthen' hb4 hb5
  have hP := hP.nx hb5
  have hF := hF.nx hb5
  have hI := hI.nx hb5
  have hQ := hQ.nx hb5
  clear hO hb4 hb5
  cases hfm : formOf x.op with
  | none =>
    rw [hfm] at ho hR
    obtain rfl : e = _ := ho

    have hR : R = none := hR
    subst hR
    have hlt := hQ.lt
    have e0 := hQ.c 0 _ rfl
    have f0 := hQ.f 0 (by simp)
    have e1 := hQ.c 1 _ rfl
    have f1 := hQ.f 1 (by simp)
    have e2 := hQ.c 2 _ rfl
    have f2 := hQ.f 2 (by simp)
    have e3 := hQ.c 3 _ rfl
    have f3 := hQ.f 3 (by simp)
    have e4 := hQ.c 4 _ rfl
    have f4 := hQ.f 4 (by simp)
    have e5 := hQ.c 5 _ rfl
    have f5 := hQ.f 5 (by simp)
    have e6 := hQ.c 6 _ rfl
    have f6 := hQ.f 6 (by simp)
    have e7 := hQ.c 7 _ rfl
    have f7 := hQ.f 7 (by simp)
    have e8 := hQ.c 8 _ rfl
    have f8 := hQ.f 8 (by simp)
    have e9 := hQ.c 9 _ rfl
    have f9 := hQ.f 9 (by simp)
    have e10 := hQ.c 10 _ rfl
    have f10 := hQ.f 10 (by simp)
    have e11 := hQ.c 11 _ rfl
    have f11 := hQ.f 11 (by simp)
    have e12 := hQ.c 12 _ rfl
    have f12 := hQ.f 12 (by simp)
    have hbz := hb
    have hbz := hbz.setCell (p := ⟨w.heap.size + 1 + 1 + 1, 0, none⟩) hw3 (.bool false)
    have hbz := hbz.setCell (p := ⟨w.heap.size + 1 + 1 + 1, 1, none⟩) hw3 (.slice none 0 0)
    have hbz := hbz.setCell (p := ⟨w.heap.size + 1 + 1 + 1, 2, none⟩) hw3 (.slice none 0 0)
    have hbz := hbz.setCell (p := ⟨w.heap.size + 1 + 1 + 1, 3, none⟩) hw3 (.slice none 0 0)
    have hbz := hbz.setCell (p := ⟨w.heap.size + 1 + 1 + 1, 4, none⟩) hw3 (.slice none 0 0)
    have hbz := hbz.setCell (p := ⟨w.heap.size + 1 + 1 + 1, 5, none⟩) hw3 (.int .i64 0)
    have hbz := hbz.setCell (p := ⟨w.heap.size + 1 + 1 + 1, 6, none⟩) hw3 (.string ⟨#[]⟩)
    have hbz := hbz.setCell (p := ⟨w.heap.size + 1 + 1 + 1, 7, none⟩) hw3 (.string ⟨#[]⟩)
    have hbz := hbz.setCell (p := ⟨w.heap.size + 1 + 1 + 1, 8, none⟩) hw3 (.slice none 0 0)
    have hbz := hbz.setCell (p := ⟨w.heap.size + 1 + 1 + 1, 9, none⟩) hw3 (.slice none 0 0)
    have hbz := hbz.setCell (p := ⟨w.heap.size + 1 + 1 + 1, 10, none⟩) hw3 (.slice none 0 0)
    have hbz := hbz.setCell (p := ⟨w.heap.size + 1 + 1 + 1, 11, none⟩) hw3 (.string ⟨#[]⟩)
    have hbz := hbz.setCell (p := ⟨w.heap.size + 1 + 1 + 1, 12, none⟩) hw3 (.slice none 0 0)
    have hbz := hbz.alloc hbz.size (.cells #[.string ⟨#[]⟩, .bool false, .bool false, .int .i64 0, .int .i64 0] 94)
    clear hP hF hI hQ hb
    go_wp2_with fail
    ((try simp only [Exit.inBlock, Exit.then]); refine bodyPost_ret_by (v := (.tuple #[.agg #[.bool false, .slice none 0 0, .slice none 0 0, .slice none 0 0, .slice none 0 0, .int .i64 0, .string ⟨#[]⟩, .string ⟨#[]⟩, .slice none 0 0, .slice none 0 0, .slice none 0 0, .string ⟨#[]⟩, .slice none 0 0], .bool false])) ((results_cell_tmp rfl _ _ _).trans (by go_simp; try rfl)) rfl ?_)
    exact ⟨hbz, rfl⟩
  | some fm =>
    have hhi := formOf_le hfm
    rw [hfm] at ho hR
    clear hfm
    obtain ⟨t0, rfl⟩ := ho
    obtain ⟨dd, nn, lo, hi⟩ := fm
    dsimp only at hR hhi
    have hlt := hQ.lt
    have i3 := hI.c 3 _ rfl
    have hlti := hI.lt
    by_cases g1 : (x.as.length : Int) < lo
    · rw [if_pos (.inl g1)] at hR
      subst hR
      have e0 := hQ.c 0 _ rfl
      have f0 := hQ.f 0 (by simp)
      have e1 := hQ.c 1 _ rfl
      have f1 := hQ.f 1 (by simp)
      have e2 := hQ.c 2 _ rfl
      have f2 := hQ.f 2 (by simp)
      have e3 := hQ.c 3 _ rfl
      have f3 := hQ.f 3 (by simp)
      have e4 := hQ.c 4 _ rfl
      have f4 := hQ.f 4 (by simp)
      have e5 := hQ.c 5 _ rfl
      have f5 := hQ.f 5 (by simp)
      have e6 := hQ.c 6 _ rfl
      have f6 := hQ.f 6 (by simp)
      have e7 := hQ.c 7 _ rfl
      have f7 := hQ.f 7 (by simp)
      have e8 := hQ.c 8 _ rfl
      have f8 := hQ.f 8 (by simp)
      have e9 := hQ.c 9 _ rfl
      have f9 := hQ.f 9 (by simp)
      have e10 := hQ.c 10 _ rfl
      have f10 := hQ.f 10 (by simp)
      have e11 := hQ.c 11 _ rfl
      have f11 := hQ.f 11 (by simp)
      have e12 := hQ.c 12 _ rfl
      have f12 := hQ.f 12 (by simp)
      have hbz := hb
      have hbz := hbz.setCell (p := ⟨w.heap.size + 1 + 1 + 1, 0, none⟩) hw3 (.bool false)
      have hbz := hbz.setCell (p := ⟨w.heap.size + 1 + 1 + 1, 1, none⟩) hw3 (.slice none 0 0)
      have hbz := hbz.setCell (p := ⟨w.heap.size + 1 + 1 + 1, 2, none⟩) hw3 (.slice none 0 0)
      have hbz := hbz.setCell (p := ⟨w.heap.size + 1 + 1 + 1, 3, none⟩) hw3 (.slice none 0 0)
      have hbz := hbz.setCell (p := ⟨w.heap.size + 1 + 1 + 1, 4, none⟩) hw3 (.slice none 0 0)
      have hbz := hbz.setCell (p := ⟨w.heap.size + 1 + 1 + 1, 5, none⟩) hw3 (.int .i64 0)
      have hbz := hbz.setCell (p := ⟨w.heap.size + 1 + 1 + 1, 6, none⟩) hw3 (.string ⟨#[]⟩)
      have hbz := hbz.setCell (p := ⟨w.heap.size + 1 + 1 + 1, 7, none⟩) hw3 (.string ⟨#[]⟩)
      have hbz := hbz.setCell (p := ⟨w.heap.size + 1 + 1 + 1, 8, none⟩) hw3 (.slice none 0 0)
      have hbz := hbz.setCell (p := ⟨w.heap.size + 1 + 1 + 1, 9, none⟩) hw3 (.slice none 0 0)
      have hbz := hbz.setCell (p := ⟨w.heap.size + 1 + 1 + 1, 10, none⟩) hw3 (.slice none 0 0)
      have hbz := hbz.setCell (p := ⟨w.heap.size + 1 + 1 + 1, 11, none⟩) hw3 (.string ⟨#[]⟩)
      have hbz := hbz.setCell (p := ⟨w.heap.size + 1 + 1 + 1, 12, none⟩) hw3 (.slice none 0 0)
      have hbz := hbz.alloc hbz.size (.cells #[.string t0, .bool dd, .bool nn, .int .i64 lo, .int .i64 hi] 94)
      clear hP hF hI hQ hb
      go_wp2_with fail
      ((try simp only [Exit.inBlock, Exit.then]); refine bodyPost_ret_by (v := (.tuple #[.agg #[.bool false, .slice none 0 0, .slice none 0 0, .slice none 0 0, .slice none 0 0, .int .i64 0, .string ⟨#[]⟩, .string ⟨#[]⟩, .slice none 0 0, .slice none 0 0, .slice none 0 0, .string ⟨#[]⟩, .slice none 0 0], .bool false])) ((results_cell_tmp rfl _ _ _).trans (by go_simp; try rfl)) rfl ?_)
      exact ⟨hbz, rfl⟩
    by_cases g2 : hi < (x.as.length : Int)
    · rw [if_pos (.inr g2)] at hR
      subst hR
      have e0 := hQ.c 0 _ rfl
      have f0 := hQ.f 0 (by simp)
      have e1 := hQ.c 1 _ rfl
      have f1 := hQ.f 1 (by simp)
      have e2 := hQ.c 2 _ rfl
      have f2 := hQ.f 2 (by simp)
      have e3 := hQ.c 3 _ rfl
      have f3 := hQ.f 3 (by simp)
      have e4 := hQ.c 4 _ rfl
      have f4 := hQ.f 4 (by simp)
      have e5 := hQ.c 5 _ rfl
      have f5 := hQ.f 5 (by simp)
      have e6 := hQ.c 6 _ rfl
      have f6 := hQ.f 6 (by simp)
      have e7 := hQ.c 7 _ rfl
      have f7 := hQ.f 7 (by simp)
      have e8 := hQ.c 8 _ rfl
      have f8 := hQ.f 8 (by simp)
      have e9 := hQ.c 9 _ rfl
      have f9 := hQ.f 9 (by simp)
      have e10 := hQ.c 10 _ rfl
      have f10 := hQ.f 10 (by simp)
      have e11 := hQ.c 11 _ rfl
      have f11 := hQ.f 11 (by simp)
      have e12 := hQ.c 12 _ rfl
      have f12 := hQ.f 12 (by simp)
      have hbz := hb
      have hbz := hbz.setCell (p := ⟨w.heap.size + 1 + 1 + 1, 0, none⟩) hw3 (.bool false)
      have hbz := hbz.setCell (p := ⟨w.heap.size + 1 + 1 + 1, 1, none⟩) hw3 (.slice none 0 0)
      have hbz := hbz.setCell (p := ⟨w.heap.size + 1 + 1 + 1, 2, none⟩) hw3 (.slice none 0 0)
      have hbz := hbz.setCell (p := ⟨w.heap.size + 1 + 1 + 1, 3, none⟩) hw3 (.slice none 0 0)
      have hbz := hbz.setCell (p := ⟨w.heap.size + 1 + 1 + 1, 4, none⟩) hw3 (.slice none 0 0)
      have hbz := hbz.setCell (p := ⟨w.heap.size + 1 + 1 + 1, 5, none⟩) hw3 (.int .i64 0)
      have hbz := hbz.setCell (p := ⟨w.heap.size + 1 + 1 + 1, 6, none⟩) hw3 (.string ⟨#[]⟩)
      have hbz := hbz.setCell (p := ⟨w.heap.size + 1 + 1 + 1, 7, none⟩) hw3 (.string ⟨#[]⟩)
      have hbz := hbz.setCell (p := ⟨w.heap.size + 1 + 1 + 1, 8, none⟩) hw3 (.slice none 0 0)
      have hbz := hbz.setCell (p := ⟨w.heap.size + 1 + 1 + 1, 9, none⟩) hw3 (.slice none 0 0)
      have hbz := hbz.setCell (p := ⟨w.heap.size + 1 + 1 + 1, 10, none⟩) hw3 (.slice none 0 0)
      have hbz := hbz.setCell (p := ⟨w.heap.size + 1 + 1 + 1, 11, none⟩) hw3 (.string ⟨#[]⟩)
      have hbz := hbz.setCell (p := ⟨w.heap.size + 1 + 1 + 1, 12, none⟩) hw3 (.slice none 0 0)
      have hbz := hbz.alloc hbz.size (.cells #[.string t0, .bool dd, .bool nn, .int .i64 lo, .int .i64 hi] 94)
      clear hP hF hI hQ hb
      go_wp2_with fail
      ((try simp only [Exit.inBlock, Exit.then]); refine bodyPost_ret_by (v := (.tuple #[.agg #[.bool false, .slice none 0 0, .slice none 0 0, .slice none 0 0, .slice none 0 0, .int .i64 0, .string ⟨#[]⟩, .string ⟨#[]⟩, .slice none 0 0, .slice none 0 0, .slice none 0 0, .string ⟨#[]⟩, .slice none 0 0], .bool false])) ((results_cell_tmp rfl _ _ _).trans (by go_simp; try rfl)) rfl ?_)
      exact ⟨hbz, rfl⟩
    rw [if_neg (by omega)] at hR
    have p0 := hP.c 0 _ rfl
    have p1 := hP.c 1 _ rfl
    have p2 := hP.c 2 _ rfl
    have p3 := hP.c 3 _ rfl
    have p4 := hP.c 4 _ rfl
    have i0 := hI.c 0 _ rfl
    have i1 := hI.c 1 _ rfl
    have i2 := hI.c 2 _ rfl
    have i4 := hI.c 4 _ rfl
    have i5 := hI.c 5 _ rfl
    have hltp := hP.lt
    have hltf := hF.lt
    go_upto_if 46 with fail
    have hP5 := hP.al (.cells #[.string t0, .bool dd, .bool nn, .int .i64 lo, .int .i64 hi] 94)
    have hF5 := hF.al (.cells #[.string t0, .bool dd, .bool nn, .int .i64 lo, .int .i64 hi] 94)
    have hI5 := hI.al (.cells #[.string t0, .bool dd, .bool nn, .int .i64 lo, .int .i64 hi] 94)
    have hQ5 := hQ.al (.cells #[.string t0, .bool dd, .bool nn, .int .i64 lo, .int .i64 hi] 94)
    have hb5 := hb.alloc hb.size (.cells #[.string t0, .bool dd, .bool nn, .int .i64 lo, .int .i64 hi] 94)
    clear hP hF hI hQ hb p0 p1 p2 p3 p4 i0 i1 i2 i3 i4 i5
    refine (?_ : ∀ W5, W5 = w1.alloc (.cells #[.string t0, .bool dd, .bool nn, .int .i64 lo, .int .i64 hi] 94) → Code.wp _ _ _ _ (W5.alloc (.cells #[.bool p.ssa, .slice a1 p.cs.length k1, .slice a2 p.gs.length k2, .slice a3 p.xs.length k3, .slice a4 p.fs.length k4, .int .i64 x.op, .string x.d, .string x.n, .slice c1 x.as.length m1, .slice c2 x.fr.length m2, .slice c3 x.ob.length m3, .string ⟨#[]⟩, .slice none 0 0] 52))) _ rfl
    intro W5 hW5
    rw [← hW5] at hP5 hF5 hI5 hQ5 hb5
    have zz : W5.heap.size = w1.heap.size + 1 := by rw [hW5]; simp
    have hK := Box.alloc W5 [.bool p.ssa, .slice a1 p.cs.length k1, .slice a2 p.gs.length k2, .slice a3 p.xs.length k3, .slice a4 p.fs.length k4, .int .i64 x.op, .string x.d, .string x.n, .slice c1 x.as.length m1, .slice c2 x.fr.length m2, .slice c3 x.ob.length m3, .string ⟨#[]⟩, .slice none 0 0] 52
    have hbK := (Below.refl W5.heap.size W5).alloc (Nat.le_refl _) (.cells #[.bool p.ssa, .slice a1 p.cs.length k1, .slice a2 p.gs.length k2, .slice a3 p.xs.length k3, .slice a4 p.fs.length k4, .int .i64 x.op, .string x.d, .string x.n, .slice c1 x.as.length m1, .slice c2 x.fr.length m2, .slice c3 x.ob.length m3, .string ⟨#[]⟩, .slice none 0 0] 52)
    rw [zz] at hK hbK
    clear hW5
    generalize W5.alloc (.cells #[.bool p.ssa, .slice a1 p.cs.length k1, .slice a2 p.gs.length k2, .slice a3 p.xs.length k3, .slice a4 p.fs.length k4, .int .i64 x.op, .string x.d, .string x.n, .slice c1 x.as.length m1, .slice c2 x.fr.length m2, .slice c3 x.ob.length m3, .string ⟨#[]⟩, .slice none 0 0] 52) = W6 at *
    go_cut [11, 12] from 47 to 59 (fun _ _ wx => ∃ d, dstOf f x ⟨dd, nn, lo, hi⟩ = some d ∧ Sz d ∧ Below (w1.heap.size + 1) W5 wx ∧ Box wx (w1.heap.size + 1) [.bool p.ssa, .slice a1 p.cs.length k1, .slice a2 p.gs.length k2, .slice a3 p.xs.length k3, .slice a4 p.fs.length k4, .int .i64 x.op, .string x.d, .string x.n, .slice c1 x.as.length m1, .slice c2 x.fr.length m2, .slice c3 x.ob.length m3, .string d, .slice none 0 0])

    case first =>
      have hkw : w.heap.size ≤ w1.heap.size + 1 := by have := hb5.size; omega
      have hb6 := hb5.trans (hbK.mono hkw)
      have hF6 := hF5.below (by omega) hbK
      have hI6 := hI5.below (by omega) hbK
      have hQ6 := hQ5.below (by omega) hbK
      clear hF5 hI5 hQ5 hP5
      cases dd with
      | false =>
        clear hF6 hI6 hQ6
        go_wp2
        go_meet
        case rel => exact ⟨_, rfl, sz0, hbK, hK⟩
      | true =>
        have hV := var_val (bthen' h0 hb6) hfv x.d
        have i1 := hI6.c 1 _ rfl
        have q0 := hF6.c 0 _ rfl
        have q1 := hF6.c 1 _ rfl
        have q2 := hF6.c 2 _ rfl
        have q3 := hF6.c 3 _ rfl
        have q4 := hF6.c 4 _ rfl
        have hds : dstOf f x ⟨true, nn, lo, hi⟩ = (varOf f x.d).map Vr.t := rfl
        rw [hds] at hR
        go_wp2_with fail
        refine hV.mono ?_
        rintro e W7 ⟨hb67, ho⟩
        have hKs : w1.heap.size + 1 < W6.heap.size := hK.lt
        have hK7 := hK.nx hb67
        have hQ7 := hQ6.nx hb67
        have hb7 := bthen' hb6 hb67
        have hbK7 := hbK.trans (hb67.mono (by omega))
        have hK8 : w1.heap.size + 1 < W7.heap.size := hK7.lt
        clear hV hb67 hb6 hbK hK hQ6 hF6 hI6 i1 q0 q1 q2 q3 q4
        cases hr : varOf f x.d with
        | none =>
          rw [hr] at ho hR
          obtain rfl : e = _ := ho
          have hR : R = none := hR
          clear hr hds
          subst hR
          have hl7 := hQ7.lt
          clear hK7 hbK7
          have e0 := hQ7.c 0 _ rfl
          have f0 := hQ7.f 0 (by simp)
          have e1 := hQ7.c 1 _ rfl
          have f1 := hQ7.f 1 (by simp)
          have e2 := hQ7.c 2 _ rfl
          have f2 := hQ7.f 2 (by simp)
          have e3 := hQ7.c 3 _ rfl
          have f3 := hQ7.f 3 (by simp)
          have e4 := hQ7.c 4 _ rfl
          have f4 := hQ7.f 4 (by simp)
          have e5 := hQ7.c 5 _ rfl
          have f5 := hQ7.f 5 (by simp)
          have e6 := hQ7.c 6 _ rfl
          have f6 := hQ7.f 6 (by simp)
          have e7 := hQ7.c 7 _ rfl
          have f7 := hQ7.f 7 (by simp)
          have e8 := hQ7.c 8 _ rfl
          have f8 := hQ7.f 8 (by simp)
          have e9 := hQ7.c 9 _ rfl
          have f9 := hQ7.f 9 (by simp)
          have e10 := hQ7.c 10 _ rfl
          have f10 := hQ7.f 10 (by simp)
          have e11 := hQ7.c 11 _ rfl
          have f11 := hQ7.f 11 (by simp)
          have e12 := hQ7.c 12 _ rfl
          have f12 := hQ7.f 12 (by simp)
          have hbz := hb7
          have hbz := hbz.setCell (p := ⟨w.heap.size + 1 + 1 + 1, 0, none⟩) hw3 (.bool false)
          have hbz := hbz.setCell (p := ⟨w.heap.size + 1 + 1 + 1, 1, none⟩) hw3 (.slice none 0 0)
          have hbz := hbz.setCell (p := ⟨w.heap.size + 1 + 1 + 1, 2, none⟩) hw3 (.slice none 0 0)
          have hbz := hbz.setCell (p := ⟨w.heap.size + 1 + 1 + 1, 3, none⟩) hw3 (.slice none 0 0)
          have hbz := hbz.setCell (p := ⟨w.heap.size + 1 + 1 + 1, 4, none⟩) hw3 (.slice none 0 0)
          have hbz := hbz.setCell (p := ⟨w.heap.size + 1 + 1 + 1, 5, none⟩) hw3 (.int .i64 0)
          have hbz := hbz.setCell (p := ⟨w.heap.size + 1 + 1 + 1, 6, none⟩) hw3 (.string ⟨#[]⟩)
          have hbz := hbz.setCell (p := ⟨w.heap.size + 1 + 1 + 1, 7, none⟩) hw3 (.string ⟨#[]⟩)
          have hbz := hbz.setCell (p := ⟨w.heap.size + 1 + 1 + 1, 8, none⟩) hw3 (.slice none 0 0)
          have hbz := hbz.setCell (p := ⟨w.heap.size + 1 + 1 + 1, 9, none⟩) hw3 (.slice none 0 0)
          have hbz := hbz.setCell (p := ⟨w.heap.size + 1 + 1 + 1, 10, none⟩) hw3 (.slice none 0 0)
          have hbz := hbz.setCell (p := ⟨w.heap.size + 1 + 1 + 1, 11, none⟩) hw3 (.string ⟨#[]⟩)
          have hbz := hbz.setCell (p := ⟨w.heap.size + 1 + 1 + 1, 12, none⟩) hw3 (.slice none 0 0)
          have hbz := hbz.alloc hbz.size (.cells #[.string ⟨#[]⟩, .string ⟨#[]⟩] 60)
          clear hQ7 hb7
          go_wp2_with fail
          ((try simp only [Exit.inBlock, Exit.then]); refine bodyPost_ret_by (v := (.tuple #[.agg #[.bool false, .slice none 0 0, .slice none 0 0, .slice none 0 0, .slice none 0 0, .int .i64 0, .string ⟨#[]⟩, .string ⟨#[]⟩, .slice none 0 0, .slice none 0 0, .slice none 0 0, .string ⟨#[]⟩, .slice none 0 0], .bool false])) ((results_cell_tmp rfl _ _ _).trans (by go_simp; try rfl)) rfl ?_)
          exact ⟨hbz, rfl⟩
        | some c =>
          rw [hr] at ho hds
          have hds := Lib.hid hds
          obtain ⟨rfl, hz1, hz2⟩ := ho
          clear hr
          have hK9 := (hK7.set (i := 11) (by simp) (.string c.t)).al (.cells #[.string c.n, .string c.t] 60)
          have hbK9 := hbK7.setCell (p := ⟨w1.heap.size + 1, 11, none⟩) (Nat.le_refl _) (.string c.t)
          have hbK9 := hbK9.alloc (by have := hbK9.size; omega) (.cells #[.string c.n, .string c.t] 60)
          have k11 := hK7.c 11 _ rfl
          have f11 := hK7.f 11 (by simp)
          clear hK7 hbK7 hQ7
          go_wp2
          go_meet
          case rel => exact ⟨_, hds.out, hz2, hbK9, hK9⟩
    case rest =>
    clear hK hbK
    obtain ⟨d, hds, hzd, hbK, hK⟩ := hcut
    rw [hds] at hR
    clear hds
    have hlen : x.as.length ≤ 8 := by omega
    have hkw : w.heap.size ≤ w1.heap.size + 1 := by have := hb5.size; omega
    have i3 := (hI5.below (by omega) hbK).c 3 _ rfl
    have hKlt : w1.heap.size + 1 < wc.heap.size := hK.lt
    clear hP5 hhi g1 g2
    go_wp2_with fail
    go_loopw [63] (fun i wr => ∃ q : Nat, ∃ (o : Value) (lst : List ByteArray), q ≤ x.as.length ∧ i = .int .i64 (q : Int) ∧ Below (w1.heap.size + 1) W5 wr ∧ Box wr (w1.heap.size + 1) [.bool p.ssa, .slice a1 p.cs.length k1, .slice a2 p.gs.length k2, .slice a3 p.xs.length k3, .slice a4 p.fs.length k4, .int .i64 x.op, .string x.d, .string x.n, .slice c1 x.as.length m1, .slice c2 x.fr.length m2, .slice c3 x.ob.length m3, .string d, o] ∧
      wr.ownsRow (w1.heap.size + 1 + 1) 9 1 o lst.length (lst.map .string) ∧ Hid (lst.length = q) ∧ (∀ s ∈ lst, Sz s) ∧ Hid (R = match tysOf f (x.as.drop q) with | none => none | some l => some (d, lst ++ l))) (fun i _ => x.as.length - (intOf i).toNat)
    case atStart => exact ⟨0, _, [], Nat.zero_le _, rfl, hbK, hK, World.ownsRow_nil _ _ _ _, Lib.hid rfl, (fun s h => by cases h), Lib.hid (by rw [hR, List.drop_zero]; cases tysOf f x.as <;> rfl)⟩
    case round =>
      clear hbK hK hR i3 hKlt
      obtain ⟨q, o, lst, hq, rfl, hbK, hK, hown, hll, hzl, hR⟩ := hrel
      have hR := hR.out
      have hKlt : w1.heap.size + 1 < wr.heap.size := hK.lt
      obtain ⟨po, ko, rfl⟩ := own_sl hown
      have hbW := hb5.trans (hbK.mono hkw)
      have hQ6 := hQ5.below (by omega) hbK
      by_cases hend : q = x.as.length
      · subst hend
        rw [List.drop_length] at hR
        have hR : R = some (d, lst) := by rw [hR]; simp [tysOf]
        subst hR
        have hl7 := hQ6.lt
        have hne : (Value.slice po lst.length ko).ownBlock ≠ some (w.heap.size + 1 + 1 + 1) := fun e => by have := (hown.lt _ e).1; omega
        clear hQ5 hF5 hI5 hxa

        have e0 := hQ6.c 0 _ rfl
        have f0 := hQ6.f 0 (by simp)
        have k0' := hK.c 0 _ rfl
        have e1 := hQ6.c 1 _ rfl
        have f1 := hQ6.f 1 (by simp)
        have k1' := hK.c 1 _ rfl
        have e2 := hQ6.c 2 _ rfl
        have f2 := hQ6.f 2 (by simp)
        have k2' := hK.c 2 _ rfl
        have e3 := hQ6.c 3 _ rfl
        have f3 := hQ6.f 3 (by simp)
        have k3' := hK.c 3 _ rfl
        have e4 := hQ6.c 4 _ rfl
        have f4 := hQ6.f 4 (by simp)
        have k4' := hK.c 4 _ rfl
        have e5 := hQ6.c 5 _ rfl
        have f5 := hQ6.f 5 (by simp)
        have k5' := hK.c 5 _ rfl
        have e6 := hQ6.c 6 _ rfl
        have f6 := hQ6.f 6 (by simp)
        have k6' := hK.c 6 _ rfl
        have e7 := hQ6.c 7 _ rfl
        have f7 := hQ6.f 7 (by simp)
        have k7' := hK.c 7 _ rfl
        have e8 := hQ6.c 8 _ rfl
        have f8 := hQ6.f 8 (by simp)
        have k8' := hK.c 8 _ rfl
        have e9 := hQ6.c 9 _ rfl
        have f9 := hQ6.f 9 (by simp)
        have k9' := hK.c 9 _ rfl
        have e10 := hQ6.c 10 _ rfl
        have f10 := hQ6.f 10 (by simp)
        have k10' := hK.c 10 _ rfl
        have e11 := hQ6.c 11 _ rfl
        have f11 := hQ6.f 11 (by simp)
        have k11' := hK.c 11 _ rfl
        have e12 := hQ6.c 12 _ rfl
        have f12 := hQ6.f 12 (by simp)
        have k12' := hK.c 12 _ rfl
        have hown := Lib.hid hown
        have hbW := Lib.hid hbW
        have hzl := Lib.hid hzl
        clear hQ6 hK hbK
        go_wp2_with fail
        ((try simp only [Exit.inBlock, Exit.then]); refine bodyPost_ret_by (v := (.tuple #[.agg #[.bool p.ssa, .slice a1 p.cs.length k1, .slice a2 p.gs.length k2, .slice a3 p.xs.length k3, .slice a4 p.fs.length k4, .int .i64 x.op, .string x.d, .string x.n, .slice c1 x.as.length m1, .slice c2 x.fr.length m2, .slice c3 x.ob.length m3, .string d, .slice po lst.length ko], .bool true])) ((results_cell_tmp rfl _ _ _).trans (by go_simp; try rfl)) rfl ?_)
        exact ⟨put13 hbW.out hw3 _ _ _ _ _ _ _ _ _ _ _ _ _, _, _, _, _, _, _, _, _, _, rfl, ⟨rfl, hpv, hxv, hzd, own_strs (own13 hown.out hne _ _ _ _ _ _ _ _ _ _ _ _ _) hzl.out (by have := hll.out; omega)⟩⟩
      · have hlt' : q < x.as.length := by omega
        have hltI : (q : Int) < (x.as.length : Int) := by omega
        rw [List.drop_eq_getElem_cons hlt', tysOf] at hR
        obtain ⟨a, rfl, h0a, ⟨h1a, hza⟩, h2a⟩ := hxa q x.as[q] (by simp [hlt'])
        have hw := bthen' h0 hbW
        have h0a := keepc hw h0a
        have h1a := keepc hw h1a
        have h2a := keepc hw h2a
        generalize x.as[q] = y at *
        have hF6 := (hF5.below (by omega) hbK).al (.cells #[.int .i64 y.k, .string y.s, .int .i64 y.n] 42)
        have hb6 := hbW.alloc hbW.size (.cells #[.int .i64 y.k, .string y.s, .int .i64 y.n] 42)
        have hV := of_val (bthen' h0 hb6) hfv y
        have r0 := hF6.c 0 _ rfl
        have r1 := hF6.c 1 _ rfl
        have r2 := hF6.c 2 _ rfl
        have r3 := hF6.c 3 _ rfl
        have r4 := hF6.c 4 _ rfl
        have hlf := hF6.lt
        have hR := Lib.hid hR
        have hQ6 := hQ6.al (.cells #[.int .i64 y.k, .string y.s, .int .i64 y.n] 42)
        have hK6 := hK.al (.cells #[.int .i64 y.k, .string y.s, .int .i64 y.n] 42)
        have hbK6 := hbK.alloc (by omega) (.cells #[.int .i64 y.k, .string y.s, .int .i64 y.n] 42)
        have hown6 := hown.alloc (.cells #[.int .i64 y.k, .string y.s, .int .i64 y.n] 42)
        clear hxa hF5 hI5 hQ5 hK hbK hown hF6 hbW
        go_wp2_with fail
        refine hV.mono ?_
        rintro e W8 ⟨hb8, ho⟩
        have hb9 := bthen' hb6 hb8
        have hQ8 := hQ6.nx hb8
        have hK8 := hK6.nx hb8
        have hK8lt : w1.heap.size + 1 < W8.heap.size := hK8.lt
        have hbK8 := hbK6.trans (hb8.mono (by have := hbK6.size; omega))
        have hown8 := hown6.kept (grown_below hb8 (Nat.le_refl _)) (by cases (Value.slice po lst.length ko).ownBlock <;> simp)
        have hR := hR.out
        clear hV hb6 hb8 hQ6 hK6 hbK6 hown6 r0 r1 r2 r3 r4 hlf h0a h1a h2a
        cases hty : tyOf f y with
        | none =>
          rw [hty] at ho hR
          obtain rfl : e = _ := ho
          have hR : R = none := hR
          subst hR
          have hl7 := hQ8.lt
          clear hty hK8 hbK8 hown8
          have e0 := hQ8.c 0 _ rfl
          have f0 := hQ8.f 0 (by simp)
          have e1 := hQ8.c 1 _ rfl
          have f1 := hQ8.f 1 (by simp)
          have e2 := hQ8.c 2 _ rfl
          have f2 := hQ8.f 2 (by simp)
          have e3 := hQ8.c 3 _ rfl
          have f3 := hQ8.f 3 (by simp)
          have e4 := hQ8.c 4 _ rfl
          have f4 := hQ8.f 4 (by simp)
          have e5 := hQ8.c 5 _ rfl
          have f5 := hQ8.f 5 (by simp)
          have e6 := hQ8.c 6 _ rfl
          have f6 := hQ8.f 6 (by simp)
          have e7 := hQ8.c 7 _ rfl
          have f7 := hQ8.f 7 (by simp)
          have e8 := hQ8.c 8 _ rfl
          have f8 := hQ8.f 8 (by simp)
          have e9 := hQ8.c 9 _ rfl
          have f9 := hQ8.f 9 (by simp)
          have e10 := hQ8.c 10 _ rfl
          have f10 := hQ8.f 10 (by simp)
          have e11 := hQ8.c 11 _ rfl
          have f11 := hQ8.f 11 (by simp)
          have e12 := hQ8.c 12 _ rfl
          have f12 := hQ8.f 12 (by simp)
          have hbz := hb9
          have hbz := hbz.setCell (p := ⟨w.heap.size + 1 + 1 + 1, 0, none⟩) hw3 (.bool false)
          have hbz := hbz.setCell (p := ⟨w.heap.size + 1 + 1 + 1, 1, none⟩) hw3 (.slice none 0 0)
          have hbz := hbz.setCell (p := ⟨w.heap.size + 1 + 1 + 1, 2, none⟩) hw3 (.slice none 0 0)
          have hbz := hbz.setCell (p := ⟨w.heap.size + 1 + 1 + 1, 3, none⟩) hw3 (.slice none 0 0)
          have hbz := hbz.setCell (p := ⟨w.heap.size + 1 + 1 + 1, 4, none⟩) hw3 (.slice none 0 0)
          have hbz := hbz.setCell (p := ⟨w.heap.size + 1 + 1 + 1, 5, none⟩) hw3 (.int .i64 0)
          have hbz := hbz.setCell (p := ⟨w.heap.size + 1 + 1 + 1, 6, none⟩) hw3 (.string ⟨#[]⟩)
          have hbz := hbz.setCell (p := ⟨w.heap.size + 1 + 1 + 1, 7, none⟩) hw3 (.string ⟨#[]⟩)
          have hbz := hbz.setCell (p := ⟨w.heap.size + 1 + 1 + 1, 8, none⟩) hw3 (.slice none 0 0)
          have hbz := hbz.setCell (p := ⟨w.heap.size + 1 + 1 + 1, 9, none⟩) hw3 (.slice none 0 0)
          have hbz := hbz.setCell (p := ⟨w.heap.size + 1 + 1 + 1, 10, none⟩) hw3 (.slice none 0 0)
          have hbz := hbz.setCell (p := ⟨w.heap.size + 1 + 1 + 1, 11, none⟩) hw3 (.string ⟨#[]⟩)
          have hbz := hbz.setCell (p := ⟨w.heap.size + 1 + 1 + 1, 12, none⟩) hw3 (.slice none 0 0)
          clear hQ8 hb9
          go_wp2_with fail
          ((try simp only [Exit.inBlock, Exit.then]); refine bodyPost_ret_by (v := (.tuple #[.agg #[.bool false, .slice none 0 0, .slice none 0 0, .slice none 0 0, .slice none 0 0, .int .i64 0, .string ⟨#[]⟩, .string ⟨#[]⟩, .slice none 0 0, .slice none 0 0, .slice none 0 0, .string ⟨#[]⟩, .slice none 0 0], .bool false])) ((results_cell_tmp rfl _ _ _).trans (by go_simp; try rfl)) rfl ?_)
          exact ⟨hbz, rfl⟩
        | some t =>
          rw [hty] at ho hR
          obtain ⟨rfl, hzt⟩ := ho
          have hR : R = match tysOf f (x.as.drop (q + 1)) with | none => none | some l => some (d, (lst ++ [t]) ++ l) := by
            rw [hR]
            dsimp only
            cases tysOf f (x.as.drop (q + 1)) with
            | none => rfl
            | some l => simp
          have hR := Lib.hid hR
          have k12 := hK8.c 12 _ rfl
          have fk12 := hK8.f 12 (by simp)
          clear hty hQ8
          go_wp2_with (at_builtin; refine wpList_append_own _ rfl _ _ 46 rfl (w1.heap.size + 1 + 1) 9 iS _ 1 16 Tryd.underlying46 hj hy0 hy1 hy2 rfl (by decide) _ _ _ rfl (hown8.alloc _) ⟨W8.heap.size, 0, none⟩ 1 1 [.string t] rfl rfl (strs_one _ _) (fun u hu => by simp at hu; subst hu; rfl) ?c3 ?c4 ?c5 ?_)
          case c3 => have := hll.out; unfold maxLen; omega
          case c4 => have := hll.out; omega
          case c5 => simp; omega
          intro v9 W9 hown9 hg9 _
          obtain ⟨p9, k9, rfl⟩ := own_sl hown9
          have hne9 : ∀ g, (Value.slice po lst.length ko).ownBlock = some g → w1.heap.size + 1 ≤ g := fun g e => by have := (hown8.lt g e).1; omega
          have hK9 := (hK8.al (.cells #[.string t] 9)).same (w' := W9) (hg9.block _ (by simp; omega) (fun e => by have := (hown8.lt _ e.symm).1; omega))
          have hbK9 := (hbK8.alloc (by omega) (.cells #[.string t] 9)).grown hg9 (by simp; omega) hne9
          have hb10 := (hb9.alloc hb9.size (.cells #[.string t] 9)).grown hg9 (by have := hb9.size; simp; omega) fun g e => by have := hne9 g e; omega
          have k12' := hK9.c 12 _ rfl
          have f12' := hK9.f 12 (by simp)
          have hK10 := hK9.set (i := 12) (by simp) (.slice p9 (lst.length + 1) k9)
          have hbK10 := hbK9.setCell (p := ⟨w1.heap.size + 1, 12, none⟩) (Nat.le_refl _) (.slice p9 (lst.length + 1) k9)
          have hown10 : (W9.setCell ⟨w1.heap.size + 1, 12, none⟩ (.slice p9 (lst.length + 1) k9)).ownsRow (w1.heap.size + 1 + 1) 9 1 (.slice p9 (lst.length + 1) k9) (lst ++ [t]).length ((lst ++ [t]).map .string) := by
            have h := hown9.kept (grown_setCell W9 (w1.heap.size + 1) 12 (.slice p9 (lst.length + 1) k9)) (.inr fun e => by have := (hown9.lt _ e).1; omega)
            simpa using h
          have hzl2 : ∀ s ∈ lst ++ [t], Sz s := fun s hs => by
            rcases List.mem_append.1 hs with h | h
            · exact hzl s h
            · simp at h; subst h; exact hzt
          have hll2 : Hid ((lst ++ [t]).length = q + 1) := Lib.hid (by simp [hll.out])
          clear hK8 hbK8 hown8 hown9 hg9 hK9 hbK9 hne9 k12 fk12
          go_wp2_with fail
          go_roundw
          case rel => exact ⟨q + 1, _, lst ++ [t], by omega, by go_num, hbK10, hK10, hown10, hll2, hzl2, hR⟩
          case measure => simp [intOf]; omega
end Go.Proofs.YtjohjpjpfglkkaaDoor
