/- The law of keeping: an instruction that has its types has them with more declared. -/
import Derived.Test.YtjohjpjpfglkkaaKep
import Derived.Test.YtjohjpjpfglkkaaFew
import Derived.Test.YtjohjpjpfglkkaaViw
import Derived.Test.YtjohjpjpfglkkaaApS
namespace Go.Proofs.Ytjohjpjpfglkkaa
open Go Go.RowKit

theorem infoCl : (Try.prog.info? 36).map (fun i => (i.zero, i.size, i.bytes)) = some (some (.agg #[.string ⟨#[]⟩, .slice none 0 0]), 2, 40) := by kernel_rfl
theorem infoEx : (Try.prog.info? 47).map (fun i => (i.zero, i.size, i.bytes)) = some (some (.agg #[.string ⟨#[]⟩, .int .i64 0]), 2, 24) := by kernel_rfl
theorem infoFn : (Try.prog.info? 30).map (fun i => (i.zero, i.size, i.bytes)) = some (some (.agg #[.string ⟨#[]⟩, .string ⟨#[]⟩, .slice none 0 0, .slice none 0 0, .slice none 0 0]), 5, 104) := by kernel_rfl
theorem infoVr : (Try.prog.info? 40).map (fun i => (i.zero, i.size, i.bytes)) = some (some (.agg #[.string ⟨#[]⟩, .string ⟨#[]⟩]), 2, 32) := by kernel_rfl
theorem ValI.kp {w w' : World} {v : Value} {x : Is} {u1 u2 u3 : Value} (h : ValI w v x u1 u2 u3) (hb : Below w.heap.size w w') : ValI w' v x u1 u2 u3 := ⟨h.e, h.z, h.a.map fun _ _ => AtA.kp hb, h.f.map fun _ _ => AtFr.kp hb, h.o.map fun _ _ => AtVt.kp hb⟩
theorem own_next {w w' : World} {B : Nat} {e : TypeId} {s : Nat} {v : Value} {n : Nat} {xs : List Value} {C : Nat} (h : w.ownsRow B e s v n xs) (hb : Below C w w') (hC : w.heap.size ≤ C) : w'.ownsRow B e s v n xs := World.ownsRow.kept h (grown_below hb hC) (by cases v.ownBlock <;> simp)
theorem own_far {w : World} {B q i : Nat} {e : TypeId} {s : Nat} {v u : Value} {n : Nat} {xs : List Value} (h : w.ownsRow B e s v n xs) (hq : q < B) : (w.setCell ⟨q, i, none⟩ u).ownsRow B e s v n xs := World.ownsRow.kept h (grown_setCell w q i u) (.inr fun e => by have := (h.lt _ e).1; omega)
theorem own_far2 {w : World} {B q i : Nat} {e : TypeId} {s : Nat} {v u : Value} {n : Nat} {xs : List Value} (h : w.ownsRow B e s v n xs) (hq : v.ownBlock ≠ some q) : (w.setCell ⟨q, i, none⟩ u).ownsRow B e s v n xs := World.ownsRow.kept h (grown_setCell w q i u) (.inr hq)
theorem boxes5 {w w1 : World} {c1 c2 c3 c4 c5 : List Value} {t1 t2 t3 t4 t5 : TypeId} (h : Below (((((w.alloc (Obj.cells c1.toArray t1)).alloc (Obj.cells c2.toArray t2)).alloc (Obj.cells c3.toArray t3)).alloc (Obj.cells c4.toArray t4)).alloc (Obj.cells c5.toArray t5)).heap.size (((((w.alloc (Obj.cells c1.toArray t1)).alloc (Obj.cells c2.toArray t2)).alloc (Obj.cells c3.toArray t3)).alloc (Obj.cells c4.toArray t4)).alloc (Obj.cells c5.toArray t5)) w1) :
    Box w1 w.heap.size c1 ∧ Box w1 (w.heap.size + 1) c2 ∧ Box w1 (w.heap.size + 1 + 1) c3 ∧ Box w1 (w.heap.size + 1 + 1 + 1) c4 ∧ Box w1 (w.heap.size + 1 + 1 + 1 + 1) c5 ∧ Below w.heap.size w w1 := by
  obtain ⟨b4, b5, h3⟩ := boxes2 h
  obtain ⟨b1, b2, b3, h0⟩ := boxes3 h3
  have s3 : (((w.alloc (Obj.cells c1.toArray t1)).alloc (Obj.cells c2.toArray t2)).alloc (Obj.cells c3.toArray t3)).heap.size = w.heap.size + 1 + 1 + 1 := by simp
  rw [s3] at b4 b5
  exact ⟨b1, b2, b3, b4, b5, h0⟩

set_option maxHeartbeats 32000000 in
set_option maxRecDepth 100000 in
theorem keep_walk {w : World} {p m : Pg} {f : Fn} {x : Is} {v : Vr} {vp u1 u2 u3 u4 : Value} (hp : ValP w vp p u1 u2 u3 u4) {vf y1 y2 y3 : Value} (hf : ValF w vf f y1 y2 y3) {vx z1 z2 z3 : Value} (hx : ValI w vx x z1 z2 z3) {vm o1 o2 o3 o4 : Value} (hm : ValP w vm m o1 o2 o3 o4) (hz1 : Sz v.n) (hz2 : Sz v.t) :
    Calls Try.prog 5 #[vp, vf, vx, vm, .agg #[.string v.n, .string v.t]] w fun e w' => e = .returned (.bool true) ∧ Below w.heap.size w w' := by
  obtain ⟨ic, ic0, ic1, ic2, ic3⟩ := info_parts infoCl
  obtain ⟨ie, ie0, ie1, ie2, ie3⟩ := info_parts infoEx
  obtain ⟨if', if0, if1, if2, if3⟩ := info_parts infoFn
  obtain ⟨iv, iv0, iv1, iv2, iv3⟩ := info_parts infoVr
  have hpv := hp
  have hfv := hf
  have hxv := hx
  have hmv := hm
  obtain ⟨rfl, pc, pg, px, pf⟩ := hp
  obtain ⟨rfl, fz, fp, fv, fb⟩ := hf
  obtain ⟨rfl, -, xa, xf, xo⟩ := hx
  obtain ⟨rfl, mc, mg, mx, mf⟩ := hm
  obtain ⟨p1, k1, rfl⟩ := pc.slice
  obtain ⟨p2, k2, rfl⟩ := pg.slice
  obtain ⟨p3, k3, rfl⟩ := px.slice
  obtain ⟨p4, k4, rfl⟩ := pf.slice
  obtain ⟨f1, h1, rfl⟩ := fp.slice
  obtain ⟨f2, h2, rfl⟩ := fv.slice
  obtain ⟨f3, h3, rfl⟩ := fb.slice
  obtain ⟨i1, j1, rfl⟩ := xa.slice
  obtain ⟨i2, j2, rfl⟩ := xf.slice
  obtain ⟨i3, j3, rfl⟩ := xo.slice
  obtain ⟨m1, n1, rfl⟩ := mc.slice
  obtain ⟨m2, n2, rfl⟩ := mg.slice
  obtain ⟨m3, n3, rfl⟩ := mx.slice
  obtain ⟨m4, n4, rfl⟩ := mf.slice
  obtain ⟨C1, hC1, -, lC1, eC1, aC1⟩ := Row.cells elemC pc
  obtain ⟨C2, hC2, -, lC2, eC2, aC2⟩ := Row.cells elemV pg
  obtain ⟨C3, hC3, -, lC3, eC3, aC3⟩ := Row.cells elemX px
  obtain ⟨C4, hC4, -, lC4, eC4, aC4⟩ := Row.cells elemF pf
  obtain ⟨D1, hD1, -, lD1, eD1, aD1⟩ := Row.cells elemC mc
  obtain ⟨D2, hD2, -, lD2, eD2, aD2⟩ := Row.cells elemV mg
  obtain ⟨D3, hD3, -, lD3, eD3, aD3⟩ := Row.cells elemX mx
  obtain ⟨D4, hD4, -, lD4, eD4, aD4⟩ := Row.cells elemF mf
  obtain ⟨C5, hC5, -, lC5, eC5, aC5⟩ := Row.cells elemV fv
  have hFew1 := fun W (hW : Below w.heap.size w W) => few_val hW hpv hfv
  have hFew2 := fun W (hW : Below w.heap.size w W) => few_val hW hmv (f := ⟨⟨#[]⟩, ⟨#[]⟩, [], [], []⟩) (vf := .agg #[.string ⟨#[]⟩, .string ⟨#[]⟩, .slice none 0 0, .slice none 0 0, .slice none 0 0]) (g1 := .slice none 0 0) (g2 := .slice none 0 0) (g3 := .slice none 0 0) ⟨rfl, ⟨by decide, by decide⟩, row_nil, row_nil, row_nil⟩
  have hIns := fun W (hW : Below w.heap.size w W) => instr_val hW hpv hfv hxv
  have hInsM := instrB_more (p := p) (m := m) (f := f) (v := v) (x := x)
  replace hInsM := Lib.hid hInsM
  have hal := boxes5 (w := w) (c1 := [.bool p.ssa, .slice p1 p.cs.length k1, .slice p2 p.gs.length k2, .slice p3 p.xs.length k3, .slice p4 p.fs.length k4]) (c2 := [.string f.n, .string f.r, .slice f1 f.ps.length h1, .slice f2 f.vs.length h2, .slice f3 f.bs.length h3]) (c3 := [.int .i64 x.op, .string x.d, .string x.n, .slice i1 x.as.length j1, .slice i2 x.fr.length j2, .slice i3 x.ob.length j3]) (c4 := [.bool m.ssa, .slice m1 m.cs.length n1, .slice m2 m.gs.length n2, .slice m3 m.xs.length n3, .slice m4 m.fs.length n4]) (c5 := [.string v.n, .string v.t]) (t1 := 27) (t2 := 30) (t3 := 65) (t4 := 27) (t5 := 40) (Below.refl _ _)
  obtain ⟨hP, hF, hI, hM, hV, hb⟩ := hal
  clear xa xf xo
  go_enter Try.func5, Try.ntmps5
  go_wp2_with fail
  refine (awake_val _).mono ?_
  rintro e w1 ⟨rfl, hd⟩
  replace hP := hP.nx hd
  replace hF := hF.nx hd
  replace hI := hI.nx hd
  replace hM := hM.nx hd
  replace hV := hV.nx hd
  replace hb := bthen' hb hd
  have hP0 := hP.c 0 _ rfl
  have hP1 := hP.c 1 _ rfl
  have hP2 := hP.c 2 _ rfl
  have hP3 := hP.c 3 _ rfl
  have hP4 := hP.c 4 _ rfl
  have hF0 := hF.c 0 _ rfl
  have hF1 := hF.c 1 _ rfl
  have hF2 := hF.c 2 _ rfl
  have hF3 := hF.c 3 _ rfl
  have hF4 := hF.c 4 _ rfl
  clear hd
  go_wp2_with fail
  refine (hFew1 _ hb).mono ?_
  rintro e w2 ⟨hd, c, rfl, hQ1⟩
  replace hP := hP.nx hd
  replace hF := hF.nx hd
  replace hI := hI.nx hd
  replace hM := hM.nx hd
  replace hV := hV.nx hd
  replace hb := bthen' hb hd
  clear hd hFew1 hP0 hP1 hP2 hP3 hP4 hF0 hF1 hF2 hF3 hF4
  have hM0 := hM.c 0 _ rfl
  have hM1 := hM.c 1 _ rfl
  have hM2 := hM.c 2 _ rfl
  have hM3 := hM.c 3 _ rfl
  have hM4 := hM.c 4 _ rfl
  cases c
  · clear hP hF hI hM hV hFew2 hIns hInsM hC1 hC2 hC3 hC4 hD1 hD2 hD3 hD4 hC5 aC1 aC2 aC3 aC4 aD1 aD2 aD3 aD4 aC5 hQ1 hM0 hM1 hM2 hM3 hM4
    go_wp2_with fail
    refine (awake_val _).mono ?_
    rintro e w9 ⟨rfl, hd⟩
    replace hb := bthen' hb hd
    clear hd
    go_wp2_with fail
    go_ret
    exact ⟨rfl, hb⟩
  replace hQ1 := Lib.hid (hQ1 rfl)
  go_wp2_with fail
  refine (hFew2 _ hb).mono ?_
  rintro e w3 ⟨hd, c, rfl, hQ2⟩
  replace hP := hP.nx hd
  replace hF := hF.nx hd
  replace hI := hI.nx hd
  replace hM := hM.nx hd
  replace hV := hV.nx hd
  replace hb := bthen' hb hd
  clear hd hFew2 hM0 hM1 hM2 hM3 hM4
  have hI0 := hI.c 0 _ rfl
  have hI1 := hI.c 1 _ rfl
  have hI2 := hI.c 2 _ rfl
  have hI3 := hI.c 3 _ rfl
  have hI4 := hI.c 4 _ rfl
  have hI5 := hI.c 5 _ rfl
  cases c
  · clear hP hF hI hM hV hIns hInsM hC1 hC2 hC3 hC4 hD1 hD2 hD3 hD4 hC5 aC1 aC2 aC3 aC4 aD1 aD2 aD3 aD4 aC5 hQ1 hQ2 hI0 hI1 hI2 hI3 hI4 hI5
    go_wp2_with fail
    refine (awake_val _).mono ?_
    rintro e w9 ⟨rfl, hd⟩
    replace hb := bthen' hb hd
    clear hd
    go_wp2_with fail
    go_ret
    exact ⟨rfl, hb⟩
  replace hQ2 := Lib.hid (hQ2 rfl).1
  by_cases h100 : 100 < x.as.length
  · have h100I : (100 : Int) < (x.as.length : Int) := by omega
    clear hP hF hI hM hV hIns hInsM hC1 hC2 hC3 hC4 hD1 hD2 hD3 hD4 hC5 aC1 aC2 aC3 aC4 aD1 aD2 aD3 aD4 aC5 hQ1 hQ2
    go_wp2_with fail
    refine (awake_val _).mono ?_
    rintro e w9 ⟨rfl, hd⟩
    replace hb := bthen' hb hd
    clear hd
    go_wp2_with fail
    go_ret
    exact ⟨rfl, hb⟩
  have h100I : ¬ (100 : Int) < (x.as.length : Int) := by omega
  have hP0 := hP.c 0 _ rfl
  have hP1 := hP.c 1 _ rfl
  have hP2 := hP.c 2 _ rfl
  have hP3 := hP.c 3 _ rfl
  have hP4 := hP.c 4 _ rfl
  have hF0 := hF.c 0 _ rfl
  have hF1 := hF.c 1 _ rfl
  have hF2 := hF.c 2 _ rfl
  have hF3 := hF.c 3 _ rfl
  have hF4 := hF.c 4 _ rfl
  go_wp2_with fail
  refine (hIns _ hb).mono ?_
  rintro e w4 ⟨rfl, hd⟩
  replace hP := hP.nx hd
  replace hF := hF.nx hd
  replace hI := hI.nx hd
  replace hM := hM.nx hd
  replace hV := hV.nx hd
  replace hb := bthen' hb hd
  clear hd hIns h100 hI0 hI1 hI2 hI3 hI4 hI5 hP0 hP1 hP2 hP3 hP4 hF0 hF1 hF2 hF3 hF4
  have hP0 := hP.c 0 _ rfl
  have hP1 := hP.c 1 _ rfl
  have hP2 := hP.c 2 _ rfl
  have hP3 := hP.c 3 _ rfl
  have hP4 := hP.c 4 _ rfl
  generalize hii : instrB p f x = ii at *
  cases ii
  · clear hP hF hI hM hV hInsM hC1 hC2 hC3 hC4 hD1 hD2 hD3 hD4 hC5 aC1 aC2 aC3 aC4 aD1 aD2 aD3 aD4 aC5 hQ1 hQ2 hii hP0 hP1 hP2 hP3 hP4
    go_wp2_with fail
    refine (awake_val _).mono ?_
    rintro e w9 ⟨rfl, hd⟩
    replace hb := bthen' hb hd
    clear hd
    go_wp2_with fail
    go_ret
    exact ⟨rfl, hb⟩
  replace hInsM := Lib.hid (hInsM.out (by simp))
  have hlV := hV.lt
  go_wp2_with fail
  clear h100I hP0 hP1 hP2 hP3 hP4
  have hQ := Box.alloc w4 [.bool p.ssa, .slice p1 p.cs.length k1, .slice p2 p.gs.length k2, .slice p3 p.xs.length k3, .slice p4 p.fs.length k4] 27
  replace hP := (hP.al (.cells #[.bool p.ssa, .slice p1 p.cs.length k1, .slice p2 p.gs.length k2, .slice p3 p.xs.length k3, .slice p4 p.fs.length k4] 27))
  replace hF := (hF.al (.cells #[.bool p.ssa, .slice p1 p.cs.length k1, .slice p2 p.gs.length k2, .slice p3 p.xs.length k3, .slice p4 p.fs.length k4] 27))
  replace hI := (hI.al (.cells #[.bool p.ssa, .slice p1 p.cs.length k1, .slice p2 p.gs.length k2, .slice p3 p.xs.length k3, .slice p4 p.fs.length k4] 27))
  replace hM := (hM.al (.cells #[.bool p.ssa, .slice p1 p.cs.length k1, .slice p2 p.gs.length k2, .slice p3 p.xs.length k3, .slice p4 p.fs.length k4] 27))
  replace hV := (hV.al (.cells #[.bool p.ssa, .slice p1 p.cs.length k1, .slice p2 p.gs.length k2, .slice p3 p.xs.length k3, .slice p4 p.fs.length k4] 27))
  replace hb := hb.alloc hb.size (.cells #[.bool p.ssa, .slice p1 p.cs.length k1, .slice p2 p.gs.length k2, .slice p3 p.xs.length k3, .slice p4 p.fs.length k4] 27)
  have hqw : w.heap.size ≤ w4.heap.size := by omega
  generalize hqb : w4.heap.size = qb at *
  generalize (w4.alloc (.cells #[.bool p.ssa, .slice p1 p.cs.length k1, .slice p2 p.gs.length k2, .slice p3 p.xs.length k3, .slice p4 p.fs.length k4] 27)) = W at *
  clear hqb
  obtain ⟨hbp, hbm⟩ : p.cs.length ≤ 20000 ∧ m.cs.length ≤ 20000 := by
    have a1 := hQ1.out.1.c
    have a2 := hQ2.out.c
    omega
  have hbd := hb.drew
  have hPd := hP.drew
  have hFd := hF.drew
  have hId := hI.drew
  have hMd := hM.drew
  have hVd := hV.drew
  have hQd := hQ.drew
  have hlW : qb < W.heap.size := hQ.lt
  have hlWd : qb < W.drew.heap.size := hlW
  go_wp2_with fail
  generalize hWd : W.drew = Wd at *
  refine wp_region_serF (S := ApS Wd 0 3 99 6 8 36 2 (p.cs.length) (m.cs.length) C1 D1 [] ⟨qb, 1, none⟩) rfl (by kernel_rfl) (ApS.start (by rw [hWd]; exact Below.refl _ _)) ?_
  refine SerF.free (fun _ => rfl) (fun V L w1 K' Q' hS hi hR hd hK => ?_) ?_
  · have a3 := hR.out 3 0 (by kernel_rfl) hi
    have a6 := hR.out 6 3 (by kernel_rfl) a3
    have a8 := hR.out 8 0 (by kernel_rfl) hi
    go_simp
    (try simp only [Act.put, List.setIfInBounds_toArray, List.set_cons_zero, List.set_cons_succ])
    exact hK.out _ _ rfl (hS.made a8 a3 a6 (by decide) (by decide) (by decide) (by decide))
  (try simp only [Act.put, List.setIfInBounds_toArray, List.set_cons_zero, List.set_cons_succ])
  ((refine SerF.step (a1 := ?_) (fun _ => rfl) (fun V L w1 K' Q' hS hi hR hd hK => ?_) ?_ ?_ ?_; rotate_left); (· ((skip); go_simp; (try simp only [Act.put, List.setIfInBounds_toArray, List.set_cons_zero, List.set_cons_succ]); exact hK.out _ (hS.keep rfl rfl rfl rfl rfl))); (· (intro V; rfl)); (· (exact fun _ _ _ _ _ _ => rfl)))
  ((refine SerF.step (a1 := ?_) (fun _ => rfl) (fun V L w1 K' Q' hS hi hR hd hK => ?_) ?_ ?_ ?_; rotate_left); (· ((have a8 := hR.out 8 2 (by kernel_rfl) hi; have f2 := (hPd.below (by first | exact hPd.lt | (rw [← hWd]; exact hPd.lt)) (hS.below a8)).c 1 _ rfl); go_simp; (try simp only [Act.put, List.setIfInBounds_toArray, List.set_cons_zero, List.set_cons_succ]); exact hK.out _ (hS.keep rfl rfl rfl rfl rfl))); (· (intro V; rfl)); (· (exact fun _ _ _ _ _ _ => rfl)))
  refine SerF.free (fun _ => rfl) (fun V L w1 K' Q' hS hi hR hd hK => ?_) ?_
  · have a6 := hR.out 6 3 (by kernel_rfl) hi
    have a8 := hR.out 8 3 (by kernel_rfl) hi
    have e0 := hd.out 0 (by kernel_rfl)
    have ho := (hS.1 a8).2.1 e0 hi
    have hbl := hbd.trans ((hS.below a8).mono hbd.size)
    refine wp_append_any _ _ 22 rfl Wd.heap.size 36 ic _ 2 40 Try.underlying22 ic0 ic1 ic2 ic3 rfl (by decide) _ 0 [] rfl ho p1 (p.cs.length) k1 C1 rfl eC1 lC1 (fun ad e j u hu => keepc hbl (aC1 ad e j u hu)) hC1.2.1 (by unfold maxLen; omega) (by omega) (hS.below a8).size (fun v' w' h1 h2 => ?_)
    have h1' : w'.ownsRow Wd.heap.size 36 2 v' (p.cs.length) C1 := by simpa using h1
    obtain ⟨pu2, ku2, rfl⟩ := own_sl h1'
    exact hK.out _ _ rfl (hS.first a8 e0 hi a6 (by decide) (by decide) (by decide) (by decide) h1' h2)
  (try simp only [Act.put, List.setIfInBounds_toArray, List.set_cons_zero, List.set_cons_succ])
  ((refine SerF.step (a1 := ?_) (fun _ => rfl) (fun V L w1 K' Q' hS hi hR hd hK => ?_) ?_ ?_ ?_; rotate_left); (· ((skip); go_simp; (try simp only [Act.put, List.setIfInBounds_toArray, List.set_cons_zero, List.set_cons_succ]); exact hK.out _ (hS.keep rfl rfl rfl rfl rfl))); (· (intro V; rfl)); (· (exact fun _ _ _ _ _ _ => rfl)))
  ((refine SerF.step (a1 := ?_) (fun _ => rfl) (fun V L w1 K' Q' hS hi hR hd hK => ?_) ?_ ?_ ?_; rotate_left); (· ((have a8 := hR.out 8 5 (by kernel_rfl) hi; have f2 := (hMd.below (by first | exact hMd.lt | (rw [← hWd]; exact hMd.lt)) (hS.below a8)).c 1 _ rfl); go_simp; (try simp only [Act.put, List.setIfInBounds_toArray, List.set_cons_zero, List.set_cons_succ]); exact hK.out _ (hS.keep rfl rfl rfl rfl rfl))); (· (intro V; rfl)); (· (exact fun _ _ _ _ _ _ => rfl)))
  refine SerF.free (fun _ => rfl) (fun V L w1 K' Q' hS hi hR hd hK => ?_) ?_
  · have a8 := hR.out 8 6 (by kernel_rfl) hi
    have e3 := hd.out 3 (by kernel_rfl)
    have ho := (hS.1 a8).2.2.1 e3 hi
    have hbl := hbd.trans ((hS.below a8).mono hbd.size)
    obtain ⟨pu, ku, hV3⟩ := own_sl ho
    refine wp_append_any _ _ 22 rfl Wd.heap.size 36 ic _ 2 40 Try.underlying22 ic0 ic1 ic2 ic3 rfl (by decide) _ (p.cs.length) _ rfl ho m1 (m.cs.length) n1 D1 rfl eD1 lD1 (fun ad e j u hu => keepc hbl (aD1 ad e j u hu)) hD1.2.1 (by unfold maxLen; omega) (by omega) (hS.below a8).size (fun v' w' h1 h2 => ?_)
    obtain ⟨pu2, ku2, rfl⟩ := own_sl h1
    exact hK.out _ _ rfl (hS.second a8 e3 hi (by decide) (by decide) h1 h2)
  (try simp only [Act.put, List.setIfInBounds_toArray, List.set_cons_zero, List.set_cons_succ])
  ((refine SerF.step (a1 := ?_) (fun _ => rfl) (fun V L w1 K' Q' hS hi hR hd hK => ?_) ?_ ?_ ?_; rotate_left); (· ((skip); go_simp; (try simp only [Act.put, List.setIfInBounds_toArray, List.set_cons_zero, List.set_cons_succ]); exact hK.out _ (hS.keep rfl rfl rfl rfl rfl))); (· (intro V; rfl)); (· (exact fun _ _ _ _ _ _ => rfl)))
  refine SerF.val undef (fun _ => rfl) (fun V L w1 K' Q' hS hi hR hd hK => ?_) ?_
  · have e6 := hd.out 6 (by kernel_rfl)
    have hbx := hS.below hi
    have hB := hQd.below (by first | exact hQd.lt | (rw [← hWd]; exact hQd.lt)) hbx
    have g := hB.c 1 _ rfl
    have gf := hB.f 1 (by simp)
    obtain ⟨pu, ku, hV6⟩ := own_sl ((hS.1 hi).2.2.2.1 e6)
    have hS2 := hS.stored hi e6
    rw [hV6] at hS2
    simp only [hV6]
    go_simp
    refine hK.out _ _ (by simp only [hV6]; rfl) hS2
  simp only [Act.put]
  refine SerF.nil fun V w1 hS => ?_
  obtain ⟨W1, pu1, ku1, hV6, hbx, ho1, rfl⟩ := hS.done rfl
  simp only [hV6]
  clear hS hV6
  replace hlWd : qb < Wd.heap.size := by first | exact hlWd | (rw [← hWd]; exact hlWd)
  have hb2 := (hbd.trans (hbx.mono hbd.size)).setCell (p := ⟨qb, 1, none⟩) (by dsimp only; omega) (.slice pu1 (p.cs.length + m.cs.length) ku1)
  have hP2 := (hPd.below hPd.lt hbx).far (q := ⟨qb, 1, none⟩) (by dsimp only; omega) (.slice pu1 (p.cs.length + m.cs.length) ku1)
  have hF2 := (hFd.below hFd.lt hbx).far (q := ⟨qb, 1, none⟩) (by dsimp only; omega) (.slice pu1 (p.cs.length + m.cs.length) ku1)
  have hI2 := (hId.below hId.lt hbx).far (q := ⟨qb, 1, none⟩) (by dsimp only; omega) (.slice pu1 (p.cs.length + m.cs.length) ku1)
  have hM2 := (hMd.below hMd.lt hbx).far (q := ⟨qb, 1, none⟩) (by dsimp only; omega) (.slice pu1 (p.cs.length + m.cs.length) ku1)
  have hV2 := (hVd.below hVd.lt hbx).far (q := ⟨qb, 1, none⟩) (by dsimp only; omega) (.slice pu1 (p.cs.length + m.cs.length) ku1)
  have hQ2 := (hQd.below hQd.lt hbx).set (i := 1) (by simp) (.slice pu1 (p.cs.length + m.cs.length) ku1)
  replace ho1 := own_far (q := qb) (i := 1) (u := .slice pu1 (p.cs.length + m.cs.length) ku1) ho1 hlWd
  have hqW := hbx.size
  clear hb hbd hP hF hI hM hV hQ hPd hFd hId hMd hVd hQd  hbx
  generalize hW2 : (W1.setCell ⟨qb, 1, none⟩ (.slice pu1 (p.cs.length + m.cs.length) ku1)) = W at *
  clear hW2
  have hb := hb2
  have hP := hP2
  have hF := hF2
  have hI := hI2
  have hM := hM2
  have hV := hV2
  have hQ := hQ2
  clear hb2 hP2 hF2 hI2 hM2 hV2 hQ2 
  obtain ⟨Bk1, hBk1, hoo1⟩ : ∃ B, qb < B ∧ W.ownsRow B 36 2 (.slice pu1 (p.cs.length + m.cs.length) ku1) (p.cs.length + m.cs.length) (C1 ++ D1) := ⟨_, hlWd, ho1⟩
  clear ho1 hWd hlW hlWd hqW
  clear hbp hbm aC1 aD1 eC1 eD1
  obtain ⟨hbp, hbm⟩ : p.gs.length ≤ 20000 ∧ m.gs.length ≤ 20000 := by
    have a1 := hQ1.out.1.g
    have a2 := hQ2.out.g
    omega
  have hbd := hb.drew
  have hPd := hP.drew
  have hFd := hF.drew
  have hId := hI.drew
  have hMd := hM.drew
  have hVd := hV.drew
  have hQd := hQ.drew
  have hoo1d := own_next hoo1 (Below.refl W.heap.size W).drew (Nat.le_refl _)
  have hlW : qb < W.heap.size := hQ.lt
  have hlWd : qb < W.drew.heap.size := hlW
  go_wp2_with fail
  generalize hWd : W.drew = Wd at *
  refine wp_region_serF (S := ApS Wd 0 3 99 6 8 40 2 (p.gs.length) (m.gs.length) C2 D2 [] ⟨qb, 2, none⟩) rfl (by kernel_rfl) (ApS.start (by rw [hWd]; exact Below.refl _ _)) ?_
  refine SerF.free (fun _ => rfl) (fun V L w1 K' Q' hS hi hR hd hK => ?_) ?_
  · have a3 := hR.out 3 0 (by kernel_rfl) hi
    have a6 := hR.out 6 3 (by kernel_rfl) a3
    have a8 := hR.out 8 0 (by kernel_rfl) hi
    go_simp
    (try simp only [Act.put, List.setIfInBounds_toArray, List.set_cons_zero, List.set_cons_succ])
    exact hK.out _ _ rfl (hS.made a8 a3 a6 (by decide) (by decide) (by decide) (by decide))
  (try simp only [Act.put, List.setIfInBounds_toArray, List.set_cons_zero, List.set_cons_succ])
  ((refine SerF.step (a1 := ?_) (fun _ => rfl) (fun V L w1 K' Q' hS hi hR hd hK => ?_) ?_ ?_ ?_; rotate_left); (· ((skip); go_simp; (try simp only [Act.put, List.setIfInBounds_toArray, List.set_cons_zero, List.set_cons_succ]); exact hK.out _ (hS.keep rfl rfl rfl rfl rfl))); (· (intro V; rfl)); (· (exact fun _ _ _ _ _ _ => rfl)))
  ((refine SerF.step (a1 := ?_) (fun _ => rfl) (fun V L w1 K' Q' hS hi hR hd hK => ?_) ?_ ?_ ?_; rotate_left); (· ((have a8 := hR.out 8 2 (by kernel_rfl) hi; have f2 := (hPd.below (by first | exact hPd.lt | (rw [← hWd]; exact hPd.lt)) (hS.below a8)).c 2 _ rfl); go_simp; (try simp only [Act.put, List.setIfInBounds_toArray, List.set_cons_zero, List.set_cons_succ]); exact hK.out _ (hS.keep rfl rfl rfl rfl rfl))); (· (intro V; rfl)); (· (exact fun _ _ _ _ _ _ => rfl)))
  refine SerF.free (fun _ => rfl) (fun V L w1 K' Q' hS hi hR hd hK => ?_) ?_
  · have a6 := hR.out 6 3 (by kernel_rfl) hi
    have a8 := hR.out 8 3 (by kernel_rfl) hi
    have e0 := hd.out 0 (by kernel_rfl)
    have ho := (hS.1 a8).2.1 e0 hi
    have hbl := hbd.trans ((hS.below a8).mono hbd.size)
    refine wp_append_any _ _ 23 rfl Wd.heap.size 40 iv _ 2 32 Try.underlying23 iv0 iv1 iv2 iv3 rfl (by decide) _ 0 [] rfl ho p2 (p.gs.length) k2 C2 rfl eC2 lC2 (fun ad e j u hu => keepc hbl (aC2 ad e j u hu)) hC2.2.1 (by unfold maxLen; omega) (by omega) (hS.below a8).size (fun v' w' h1 h2 => ?_)
    have h1' : w'.ownsRow Wd.heap.size 40 2 v' (p.gs.length) C2 := by simpa using h1
    obtain ⟨pu2, ku2, rfl⟩ := own_sl h1'
    exact hK.out _ _ rfl (hS.first a8 e0 hi a6 (by decide) (by decide) (by decide) (by decide) h1' h2)
  (try simp only [Act.put, List.setIfInBounds_toArray, List.set_cons_zero, List.set_cons_succ])
  ((refine SerF.step (a1 := ?_) (fun _ => rfl) (fun V L w1 K' Q' hS hi hR hd hK => ?_) ?_ ?_ ?_; rotate_left); (· ((skip); go_simp; (try simp only [Act.put, List.setIfInBounds_toArray, List.set_cons_zero, List.set_cons_succ]); exact hK.out _ (hS.keep rfl rfl rfl rfl rfl))); (· (intro V; rfl)); (· (exact fun _ _ _ _ _ _ => rfl)))
  ((refine SerF.step (a1 := ?_) (fun _ => rfl) (fun V L w1 K' Q' hS hi hR hd hK => ?_) ?_ ?_ ?_; rotate_left); (· ((have a8 := hR.out 8 5 (by kernel_rfl) hi; have f2 := (hMd.below (by first | exact hMd.lt | (rw [← hWd]; exact hMd.lt)) (hS.below a8)).c 2 _ rfl); go_simp; (try simp only [Act.put, List.setIfInBounds_toArray, List.set_cons_zero, List.set_cons_succ]); exact hK.out _ (hS.keep rfl rfl rfl rfl rfl))); (· (intro V; rfl)); (· (exact fun _ _ _ _ _ _ => rfl)))
  refine SerF.free (fun _ => rfl) (fun V L w1 K' Q' hS hi hR hd hK => ?_) ?_
  · have a8 := hR.out 8 6 (by kernel_rfl) hi
    have e3 := hd.out 3 (by kernel_rfl)
    have ho := (hS.1 a8).2.2.1 e3 hi
    have hbl := hbd.trans ((hS.below a8).mono hbd.size)
    obtain ⟨pu, ku, hV3⟩ := own_sl ho
    refine wp_append_any _ _ 23 rfl Wd.heap.size 40 iv _ 2 32 Try.underlying23 iv0 iv1 iv2 iv3 rfl (by decide) _ (p.gs.length) _ rfl ho m2 (m.gs.length) n2 D2 rfl eD2 lD2 (fun ad e j u hu => keepc hbl (aD2 ad e j u hu)) hD2.2.1 (by unfold maxLen; omega) (by omega) (hS.below a8).size (fun v' w' h1 h2 => ?_)
    obtain ⟨pu2, ku2, rfl⟩ := own_sl h1
    exact hK.out _ _ rfl (hS.second a8 e3 hi (by decide) (by decide) h1 h2)
  (try simp only [Act.put, List.setIfInBounds_toArray, List.set_cons_zero, List.set_cons_succ])
  ((refine SerF.step (a1 := ?_) (fun _ => rfl) (fun V L w1 K' Q' hS hi hR hd hK => ?_) ?_ ?_ ?_; rotate_left); (· ((skip); go_simp; (try simp only [Act.put, List.setIfInBounds_toArray, List.set_cons_zero, List.set_cons_succ]); exact hK.out _ (hS.keep rfl rfl rfl rfl rfl))); (· (intro V; rfl)); (· (exact fun _ _ _ _ _ _ => rfl)))
  refine SerF.val undef (fun _ => rfl) (fun V L w1 K' Q' hS hi hR hd hK => ?_) ?_
  · have e6 := hd.out 6 (by kernel_rfl)
    have hbx := hS.below hi
    have hB := hQd.below (by first | exact hQd.lt | (rw [← hWd]; exact hQd.lt)) hbx
    have g := hB.c 2 _ rfl
    have gf := hB.f 2 (by simp)
    obtain ⟨pu, ku, hV6⟩ := own_sl ((hS.1 hi).2.2.2.1 e6)
    have hS2 := hS.stored hi e6
    rw [hV6] at hS2
    simp only [hV6]
    go_simp
    refine hK.out _ _ (by simp only [hV6]; rfl) hS2
  simp only [Act.put]
  refine SerF.nil fun V w1 hS => ?_
  obtain ⟨W1, pu2, ku2, hV6, hbx, ho2, rfl⟩ := hS.done rfl
  simp only [hV6]
  clear hS hV6
  replace hlWd : qb < Wd.heap.size := by first | exact hlWd | (rw [← hWd]; exact hlWd)
  have hb2 := (hbd.trans (hbx.mono hbd.size)).setCell (p := ⟨qb, 2, none⟩) (by dsimp only; omega) (.slice pu2 (p.gs.length + m.gs.length) ku2)
  have hP2 := (hPd.below hPd.lt hbx).far (q := ⟨qb, 2, none⟩) (by dsimp only; omega) (.slice pu2 (p.gs.length + m.gs.length) ku2)
  have hF2 := (hFd.below hFd.lt hbx).far (q := ⟨qb, 2, none⟩) (by dsimp only; omega) (.slice pu2 (p.gs.length + m.gs.length) ku2)
  have hI2 := (hId.below hId.lt hbx).far (q := ⟨qb, 2, none⟩) (by dsimp only; omega) (.slice pu2 (p.gs.length + m.gs.length) ku2)
  have hM2 := (hMd.below hMd.lt hbx).far (q := ⟨qb, 2, none⟩) (by dsimp only; omega) (.slice pu2 (p.gs.length + m.gs.length) ku2)
  have hV2 := (hVd.below hVd.lt hbx).far (q := ⟨qb, 2, none⟩) (by dsimp only; omega) (.slice pu2 (p.gs.length + m.gs.length) ku2)
  have hQ2 := (hQd.below hQd.lt hbx).set (i := 2) (by simp) (.slice pu2 (p.gs.length + m.gs.length) ku2)
  have hoo12 := own_far (q := qb) (i := 2) (u := .slice pu2 (p.gs.length + m.gs.length) ku2) (own_next hoo1d hbx (Nat.le_refl _)) (by omega)
  replace ho2 := own_far (q := qb) (i := 2) (u := .slice pu2 (p.gs.length + m.gs.length) ku2) ho2 hlWd
  have hqW := hbx.size
  clear hb hbd hP hF hI hM hV hQ hPd hFd hId hMd hVd hQd hoo1 hoo1d hbx
  generalize hW2 : (W1.setCell ⟨qb, 2, none⟩ (.slice pu2 (p.gs.length + m.gs.length) ku2)) = W at *
  clear hW2
  have hb := hb2
  have hP := hP2
  have hF := hF2
  have hI := hI2
  have hM := hM2
  have hV := hV2
  have hQ := hQ2
  have hoo1 := hoo12
  clear hb2 hP2 hF2 hI2 hM2 hV2 hQ2 hoo12
  obtain ⟨Bk2, hBk2, hoo2⟩ : ∃ B, qb < B ∧ W.ownsRow B 40 2 (.slice pu2 (p.gs.length + m.gs.length) ku2) (p.gs.length + m.gs.length) (C2 ++ D2) := ⟨_, hlWd, ho2⟩
  clear ho2 hWd hlW hlWd hqW
  clear hbp hbm aC2 aD2 eC2 eD2
  obtain ⟨hbp, hbm⟩ : p.xs.length ≤ 20000 ∧ m.xs.length ≤ 20000 := by
    have a1 := hQ1.out.1.x
    have a2 := hQ2.out.x
    omega
  have hbd := hb.drew
  have hPd := hP.drew
  have hFd := hF.drew
  have hId := hI.drew
  have hMd := hM.drew
  have hVd := hV.drew
  have hQd := hQ.drew
  have hoo1d := own_next hoo1 (Below.refl W.heap.size W).drew (Nat.le_refl _)
  have hoo2d := own_next hoo2 (Below.refl W.heap.size W).drew (Nat.le_refl _)
  have hlW : qb < W.heap.size := hQ.lt
  have hlWd : qb < W.drew.heap.size := hlW
  go_wp2_with fail
  generalize hWd : W.drew = Wd at *
  refine wp_region_serF (S := ApS Wd 0 3 99 6 8 47 2 (p.xs.length) (m.xs.length) C3 D3 [] ⟨qb, 3, none⟩) rfl (by kernel_rfl) (ApS.start (by rw [hWd]; exact Below.refl _ _)) ?_
  refine SerF.free (fun _ => rfl) (fun V L w1 K' Q' hS hi hR hd hK => ?_) ?_
  · have a3 := hR.out 3 0 (by kernel_rfl) hi
    have a6 := hR.out 6 3 (by kernel_rfl) a3
    have a8 := hR.out 8 0 (by kernel_rfl) hi
    go_simp
    (try simp only [Act.put, List.setIfInBounds_toArray, List.set_cons_zero, List.set_cons_succ])
    exact hK.out _ _ rfl (hS.made a8 a3 a6 (by decide) (by decide) (by decide) (by decide))
  (try simp only [Act.put, List.setIfInBounds_toArray, List.set_cons_zero, List.set_cons_succ])
  ((refine SerF.step (a1 := ?_) (fun _ => rfl) (fun V L w1 K' Q' hS hi hR hd hK => ?_) ?_ ?_ ?_; rotate_left); (· ((skip); go_simp; (try simp only [Act.put, List.setIfInBounds_toArray, List.set_cons_zero, List.set_cons_succ]); exact hK.out _ (hS.keep rfl rfl rfl rfl rfl))); (· (intro V; rfl)); (· (exact fun _ _ _ _ _ _ => rfl)))
  ((refine SerF.step (a1 := ?_) (fun _ => rfl) (fun V L w1 K' Q' hS hi hR hd hK => ?_) ?_ ?_ ?_; rotate_left); (· ((have a8 := hR.out 8 2 (by kernel_rfl) hi; have f2 := (hPd.below (by first | exact hPd.lt | (rw [← hWd]; exact hPd.lt)) (hS.below a8)).c 3 _ rfl); go_simp; (try simp only [Act.put, List.setIfInBounds_toArray, List.set_cons_zero, List.set_cons_succ]); exact hK.out _ (hS.keep rfl rfl rfl rfl rfl))); (· (intro V; rfl)); (· (exact fun _ _ _ _ _ _ => rfl)))
  refine SerF.free (fun _ => rfl) (fun V L w1 K' Q' hS hi hR hd hK => ?_) ?_
  · have a6 := hR.out 6 3 (by kernel_rfl) hi
    have a8 := hR.out 8 3 (by kernel_rfl) hi
    have e0 := hd.out 0 (by kernel_rfl)
    have ho := (hS.1 a8).2.1 e0 hi
    have hbl := hbd.trans ((hS.below a8).mono hbd.size)
    refine wp_append_any _ _ 24 rfl Wd.heap.size 47 ie _ 2 24 Try.underlying24 ie0 ie1 ie2 ie3 rfl (by decide) _ 0 [] rfl ho p3 (p.xs.length) k3 C3 rfl eC3 lC3 (fun ad e j u hu => keepc hbl (aC3 ad e j u hu)) hC3.2.1 (by unfold maxLen; omega) (by omega) (hS.below a8).size (fun v' w' h1 h2 => ?_)
    have h1' : w'.ownsRow Wd.heap.size 47 2 v' (p.xs.length) C3 := by simpa using h1
    obtain ⟨pu2, ku2, rfl⟩ := own_sl h1'
    exact hK.out _ _ rfl (hS.first a8 e0 hi a6 (by decide) (by decide) (by decide) (by decide) h1' h2)
  (try simp only [Act.put, List.setIfInBounds_toArray, List.set_cons_zero, List.set_cons_succ])
  ((refine SerF.step (a1 := ?_) (fun _ => rfl) (fun V L w1 K' Q' hS hi hR hd hK => ?_) ?_ ?_ ?_; rotate_left); (· ((skip); go_simp; (try simp only [Act.put, List.setIfInBounds_toArray, List.set_cons_zero, List.set_cons_succ]); exact hK.out _ (hS.keep rfl rfl rfl rfl rfl))); (· (intro V; rfl)); (· (exact fun _ _ _ _ _ _ => rfl)))
  ((refine SerF.step (a1 := ?_) (fun _ => rfl) (fun V L w1 K' Q' hS hi hR hd hK => ?_) ?_ ?_ ?_; rotate_left); (· ((have a8 := hR.out 8 5 (by kernel_rfl) hi; have f2 := (hMd.below (by first | exact hMd.lt | (rw [← hWd]; exact hMd.lt)) (hS.below a8)).c 3 _ rfl); go_simp; (try simp only [Act.put, List.setIfInBounds_toArray, List.set_cons_zero, List.set_cons_succ]); exact hK.out _ (hS.keep rfl rfl rfl rfl rfl))); (· (intro V; rfl)); (· (exact fun _ _ _ _ _ _ => rfl)))
  refine SerF.free (fun _ => rfl) (fun V L w1 K' Q' hS hi hR hd hK => ?_) ?_
  · have a8 := hR.out 8 6 (by kernel_rfl) hi
    have e3 := hd.out 3 (by kernel_rfl)
    have ho := (hS.1 a8).2.2.1 e3 hi
    have hbl := hbd.trans ((hS.below a8).mono hbd.size)
    obtain ⟨pu, ku, hV3⟩ := own_sl ho
    refine wp_append_any _ _ 24 rfl Wd.heap.size 47 ie _ 2 24 Try.underlying24 ie0 ie1 ie2 ie3 rfl (by decide) _ (p.xs.length) _ rfl ho m3 (m.xs.length) n3 D3 rfl eD3 lD3 (fun ad e j u hu => keepc hbl (aD3 ad e j u hu)) hD3.2.1 (by unfold maxLen; omega) (by omega) (hS.below a8).size (fun v' w' h1 h2 => ?_)
    obtain ⟨pu2, ku2, rfl⟩ := own_sl h1
    exact hK.out _ _ rfl (hS.second a8 e3 hi (by decide) (by decide) h1 h2)
  (try simp only [Act.put, List.setIfInBounds_toArray, List.set_cons_zero, List.set_cons_succ])
  ((refine SerF.step (a1 := ?_) (fun _ => rfl) (fun V L w1 K' Q' hS hi hR hd hK => ?_) ?_ ?_ ?_; rotate_left); (· ((skip); go_simp; (try simp only [Act.put, List.setIfInBounds_toArray, List.set_cons_zero, List.set_cons_succ]); exact hK.out _ (hS.keep rfl rfl rfl rfl rfl))); (· (intro V; rfl)); (· (exact fun _ _ _ _ _ _ => rfl)))
  refine SerF.val undef (fun _ => rfl) (fun V L w1 K' Q' hS hi hR hd hK => ?_) ?_
  · have e6 := hd.out 6 (by kernel_rfl)
    have hbx := hS.below hi
    have hB := hQd.below (by first | exact hQd.lt | (rw [← hWd]; exact hQd.lt)) hbx
    have g := hB.c 3 _ rfl
    have gf := hB.f 3 (by simp)
    obtain ⟨pu, ku, hV6⟩ := own_sl ((hS.1 hi).2.2.2.1 e6)
    have hS2 := hS.stored hi e6
    rw [hV6] at hS2
    simp only [hV6]
    go_simp
    refine hK.out _ _ (by simp only [hV6]; rfl) hS2
  simp only [Act.put]
  refine SerF.nil fun V w1 hS => ?_
  obtain ⟨W1, pu3, ku3, hV6, hbx, ho3, rfl⟩ := hS.done rfl
  simp only [hV6]
  clear hS hV6
  replace hlWd : qb < Wd.heap.size := by first | exact hlWd | (rw [← hWd]; exact hlWd)
  have hb2 := (hbd.trans (hbx.mono hbd.size)).setCell (p := ⟨qb, 3, none⟩) (by dsimp only; omega) (.slice pu3 (p.xs.length + m.xs.length) ku3)
  have hP2 := (hPd.below hPd.lt hbx).far (q := ⟨qb, 3, none⟩) (by dsimp only; omega) (.slice pu3 (p.xs.length + m.xs.length) ku3)
  have hF2 := (hFd.below hFd.lt hbx).far (q := ⟨qb, 3, none⟩) (by dsimp only; omega) (.slice pu3 (p.xs.length + m.xs.length) ku3)
  have hI2 := (hId.below hId.lt hbx).far (q := ⟨qb, 3, none⟩) (by dsimp only; omega) (.slice pu3 (p.xs.length + m.xs.length) ku3)
  have hM2 := (hMd.below hMd.lt hbx).far (q := ⟨qb, 3, none⟩) (by dsimp only; omega) (.slice pu3 (p.xs.length + m.xs.length) ku3)
  have hV2 := (hVd.below hVd.lt hbx).far (q := ⟨qb, 3, none⟩) (by dsimp only; omega) (.slice pu3 (p.xs.length + m.xs.length) ku3)
  have hQ2 := (hQd.below hQd.lt hbx).set (i := 3) (by simp) (.slice pu3 (p.xs.length + m.xs.length) ku3)
  have hoo12 := own_far (q := qb) (i := 3) (u := .slice pu3 (p.xs.length + m.xs.length) ku3) (own_next hoo1d hbx (Nat.le_refl _)) (by omega)
  have hoo22 := own_far (q := qb) (i := 3) (u := .slice pu3 (p.xs.length + m.xs.length) ku3) (own_next hoo2d hbx (Nat.le_refl _)) (by omega)
  replace ho3 := own_far (q := qb) (i := 3) (u := .slice pu3 (p.xs.length + m.xs.length) ku3) ho3 hlWd
  have hqW := hbx.size
  clear hb hbd hP hF hI hM hV hQ hPd hFd hId hMd hVd hQd hoo1 hoo1d hoo2 hoo2d hbx
  generalize hW2 : (W1.setCell ⟨qb, 3, none⟩ (.slice pu3 (p.xs.length + m.xs.length) ku3)) = W at *
  clear hW2
  have hb := hb2
  have hP := hP2
  have hF := hF2
  have hI := hI2
  have hM := hM2
  have hV := hV2
  have hQ := hQ2
  have hoo1 := hoo12
  have hoo2 := hoo22
  clear hb2 hP2 hF2 hI2 hM2 hV2 hQ2 hoo12 hoo22
  obtain ⟨Bk3, hBk3, hoo3⟩ : ∃ B, qb < B ∧ W.ownsRow B 47 2 (.slice pu3 (p.xs.length + m.xs.length) ku3) (p.xs.length + m.xs.length) (C3 ++ D3) := ⟨_, hlWd, ho3⟩
  clear ho3 hWd hlW hlWd hqW
  clear hbp hbm aC3 aD3 eC3 eD3
  obtain ⟨hbp, hbm⟩ : p.fs.length ≤ 20000 ∧ m.fs.length ≤ 20000 := by
    have a1 := hQ1.out.1.f
    have a2 := hQ2.out.f
    omega
  have hbd := hb.drew
  have hPd := hP.drew
  have hFd := hF.drew
  have hId := hI.drew
  have hMd := hM.drew
  have hVd := hV.drew
  have hQd := hQ.drew
  have hoo1d := own_next hoo1 (Below.refl W.heap.size W).drew (Nat.le_refl _)
  have hoo2d := own_next hoo2 (Below.refl W.heap.size W).drew (Nat.le_refl _)
  have hoo3d := own_next hoo3 (Below.refl W.heap.size W).drew (Nat.le_refl _)
  have hlW : qb < W.heap.size := hQ.lt
  have hlWd : qb < W.drew.heap.size := hlW
  go_wp2_with fail
  generalize hWd : W.drew = Wd at *
  refine wp_region_serF (S := ApS Wd 0 3 99 6 8 30 5 (p.fs.length) (m.fs.length) C4 D4 [] ⟨qb, 4, none⟩) rfl (by kernel_rfl) (ApS.start (by rw [hWd]; exact Below.refl _ _)) ?_
  refine SerF.free (fun _ => rfl) (fun V L w1 K' Q' hS hi hR hd hK => ?_) ?_
  · have a3 := hR.out 3 0 (by kernel_rfl) hi
    have a6 := hR.out 6 3 (by kernel_rfl) a3
    have a8 := hR.out 8 0 (by kernel_rfl) hi
    go_simp
    (try simp only [Act.put, List.setIfInBounds_toArray, List.set_cons_zero, List.set_cons_succ])
    exact hK.out _ _ rfl (hS.made a8 a3 a6 (by decide) (by decide) (by decide) (by decide))
  (try simp only [Act.put, List.setIfInBounds_toArray, List.set_cons_zero, List.set_cons_succ])
  ((refine SerF.step (a1 := ?_) (fun _ => rfl) (fun V L w1 K' Q' hS hi hR hd hK => ?_) ?_ ?_ ?_; rotate_left); (· ((skip); go_simp; (try simp only [Act.put, List.setIfInBounds_toArray, List.set_cons_zero, List.set_cons_succ]); exact hK.out _ (hS.keep rfl rfl rfl rfl rfl))); (· (intro V; rfl)); (· (exact fun _ _ _ _ _ _ => rfl)))
  ((refine SerF.step (a1 := ?_) (fun _ => rfl) (fun V L w1 K' Q' hS hi hR hd hK => ?_) ?_ ?_ ?_; rotate_left); (· ((have a8 := hR.out 8 2 (by kernel_rfl) hi; have f2 := (hPd.below (by first | exact hPd.lt | (rw [← hWd]; exact hPd.lt)) (hS.below a8)).c 4 _ rfl); go_simp; (try simp only [Act.put, List.setIfInBounds_toArray, List.set_cons_zero, List.set_cons_succ]); exact hK.out _ (hS.keep rfl rfl rfl rfl rfl))); (· (intro V; rfl)); (· (exact fun _ _ _ _ _ _ => rfl)))
  refine SerF.free (fun _ => rfl) (fun V L w1 K' Q' hS hi hR hd hK => ?_) ?_
  · have a6 := hR.out 6 3 (by kernel_rfl) hi
    have a8 := hR.out 8 3 (by kernel_rfl) hi
    have e0 := hd.out 0 (by kernel_rfl)
    have ho := (hS.1 a8).2.1 e0 hi
    have hbl := hbd.trans ((hS.below a8).mono hbd.size)
    refine wp_append_any _ _ 25 rfl Wd.heap.size 30 if' _ 5 104 Try.underlying25 if0 if1 if2 if3 rfl (by decide) _ 0 [] rfl ho p4 (p.fs.length) k4 C4 rfl eC4 lC4 (fun ad e j u hu => keepc hbl (aC4 ad e j u hu)) hC4.2.1 (by unfold maxLen; omega) (by omega) (hS.below a8).size (fun v' w' h1 h2 => ?_)
    have h1' : w'.ownsRow Wd.heap.size 30 5 v' (p.fs.length) C4 := by simpa using h1
    obtain ⟨pu2, ku2, rfl⟩ := own_sl h1'
    exact hK.out _ _ rfl (hS.first a8 e0 hi a6 (by decide) (by decide) (by decide) (by decide) h1' h2)
  (try simp only [Act.put, List.setIfInBounds_toArray, List.set_cons_zero, List.set_cons_succ])
  ((refine SerF.step (a1 := ?_) (fun _ => rfl) (fun V L w1 K' Q' hS hi hR hd hK => ?_) ?_ ?_ ?_; rotate_left); (· ((skip); go_simp; (try simp only [Act.put, List.setIfInBounds_toArray, List.set_cons_zero, List.set_cons_succ]); exact hK.out _ (hS.keep rfl rfl rfl rfl rfl))); (· (intro V; rfl)); (· (exact fun _ _ _ _ _ _ => rfl)))
  ((refine SerF.step (a1 := ?_) (fun _ => rfl) (fun V L w1 K' Q' hS hi hR hd hK => ?_) ?_ ?_ ?_; rotate_left); (· ((have a8 := hR.out 8 5 (by kernel_rfl) hi; have f2 := (hMd.below (by first | exact hMd.lt | (rw [← hWd]; exact hMd.lt)) (hS.below a8)).c 4 _ rfl); go_simp; (try simp only [Act.put, List.setIfInBounds_toArray, List.set_cons_zero, List.set_cons_succ]); exact hK.out _ (hS.keep rfl rfl rfl rfl rfl))); (· (intro V; rfl)); (· (exact fun _ _ _ _ _ _ => rfl)))
  refine SerF.free (fun _ => rfl) (fun V L w1 K' Q' hS hi hR hd hK => ?_) ?_
  · have a8 := hR.out 8 6 (by kernel_rfl) hi
    have e3 := hd.out 3 (by kernel_rfl)
    have ho := (hS.1 a8).2.2.1 e3 hi
    have hbl := hbd.trans ((hS.below a8).mono hbd.size)
    obtain ⟨pu, ku, hV3⟩ := own_sl ho
    refine wp_append_any _ _ 25 rfl Wd.heap.size 30 if' _ 5 104 Try.underlying25 if0 if1 if2 if3 rfl (by decide) _ (p.fs.length) _ rfl ho m4 (m.fs.length) n4 D4 rfl eD4 lD4 (fun ad e j u hu => keepc hbl (aD4 ad e j u hu)) hD4.2.1 (by unfold maxLen; omega) (by omega) (hS.below a8).size (fun v' w' h1 h2 => ?_)
    obtain ⟨pu2, ku2, rfl⟩ := own_sl h1
    exact hK.out _ _ rfl (hS.second a8 e3 hi (by decide) (by decide) h1 h2)
  (try simp only [Act.put, List.setIfInBounds_toArray, List.set_cons_zero, List.set_cons_succ])
  ((refine SerF.step (a1 := ?_) (fun _ => rfl) (fun V L w1 K' Q' hS hi hR hd hK => ?_) ?_ ?_ ?_; rotate_left); (· ((skip); go_simp; (try simp only [Act.put, List.setIfInBounds_toArray, List.set_cons_zero, List.set_cons_succ]); exact hK.out _ (hS.keep rfl rfl rfl rfl rfl))); (· (intro V; rfl)); (· (exact fun _ _ _ _ _ _ => rfl)))
  refine SerF.val undef (fun _ => rfl) (fun V L w1 K' Q' hS hi hR hd hK => ?_) ?_
  · have e6 := hd.out 6 (by kernel_rfl)
    have hbx := hS.below hi
    have hB := hQd.below (by first | exact hQd.lt | (rw [← hWd]; exact hQd.lt)) hbx
    have g := hB.c 4 _ rfl
    have gf := hB.f 4 (by simp)
    obtain ⟨pu, ku, hV6⟩ := own_sl ((hS.1 hi).2.2.2.1 e6)
    have hS2 := hS.stored hi e6
    rw [hV6] at hS2
    simp only [hV6]
    go_simp
    refine hK.out _ _ (by simp only [hV6]; rfl) hS2
  simp only [Act.put]
  refine SerF.nil fun V w1 hS => ?_
  obtain ⟨W1, pu4, ku4, hV6, hbx, ho4, rfl⟩ := hS.done rfl
  simp only [hV6]
  clear hS hV6
  replace hlWd : qb < Wd.heap.size := by first | exact hlWd | (rw [← hWd]; exact hlWd)
  have hb2 := (hbd.trans (hbx.mono hbd.size)).setCell (p := ⟨qb, 4, none⟩) (by dsimp only; omega) (.slice pu4 (p.fs.length + m.fs.length) ku4)
  have hP2 := (hPd.below hPd.lt hbx).far (q := ⟨qb, 4, none⟩) (by dsimp only; omega) (.slice pu4 (p.fs.length + m.fs.length) ku4)
  have hF2 := (hFd.below hFd.lt hbx).far (q := ⟨qb, 4, none⟩) (by dsimp only; omega) (.slice pu4 (p.fs.length + m.fs.length) ku4)
  have hI2 := (hId.below hId.lt hbx).far (q := ⟨qb, 4, none⟩) (by dsimp only; omega) (.slice pu4 (p.fs.length + m.fs.length) ku4)
  have hM2 := (hMd.below hMd.lt hbx).far (q := ⟨qb, 4, none⟩) (by dsimp only; omega) (.slice pu4 (p.fs.length + m.fs.length) ku4)
  have hV2 := (hVd.below hVd.lt hbx).far (q := ⟨qb, 4, none⟩) (by dsimp only; omega) (.slice pu4 (p.fs.length + m.fs.length) ku4)
  have hQ2 := (hQd.below hQd.lt hbx).set (i := 4) (by simp) (.slice pu4 (p.fs.length + m.fs.length) ku4)
  have hoo12 := own_far (q := qb) (i := 4) (u := .slice pu4 (p.fs.length + m.fs.length) ku4) (own_next hoo1d hbx (Nat.le_refl _)) (by omega)
  have hoo22 := own_far (q := qb) (i := 4) (u := .slice pu4 (p.fs.length + m.fs.length) ku4) (own_next hoo2d hbx (Nat.le_refl _)) (by omega)
  have hoo32 := own_far (q := qb) (i := 4) (u := .slice pu4 (p.fs.length + m.fs.length) ku4) (own_next hoo3d hbx (Nat.le_refl _)) (by omega)
  replace ho4 := own_far (q := qb) (i := 4) (u := .slice pu4 (p.fs.length + m.fs.length) ku4) ho4 hlWd
  have hqW := hbx.size
  clear hb hbd hP hF hI hM hV hQ hPd hFd hId hMd hVd hQd hoo1 hoo1d hoo2 hoo2d hoo3 hoo3d hbx
  generalize hW2 : (W1.setCell ⟨qb, 4, none⟩ (.slice pu4 (p.fs.length + m.fs.length) ku4)) = W at *
  clear hW2
  have hb := hb2
  have hP := hP2
  have hF := hF2
  have hI := hI2
  have hM := hM2
  have hV := hV2
  have hQ := hQ2
  have hoo1 := hoo12
  have hoo2 := hoo22
  have hoo3 := hoo32
  clear hb2 hP2 hF2 hI2 hM2 hV2 hQ2 hoo12 hoo22 hoo32
  obtain ⟨Bk4, hBk4, hoo4⟩ : ∃ B, qb < B ∧ W.ownsRow B 30 5 (.slice pu4 (p.fs.length + m.fs.length) ku4) (p.fs.length + m.fs.length) (C4 ++ D4) := ⟨_, hlWd, ho4⟩
  clear ho4 hWd hlW hlWd hqW
  clear hbp hbm aC4 aD4 eC4 eD4
  obtain ⟨hbp, -⟩ : f.vs.length ≤ 20000 ∧ True := ⟨hQ1.out.2.2, trivial⟩
  have hF0 := hF.c 0 _ rfl
  have hF1 := hF.c 1 _ rfl
  have hF2 := hF.c 2 _ rfl
  have hF3 := hF.c 3 _ rfl
  have hF4 := hF.c 4 _ rfl
  have hgl := hV.lt
  have hgq := hQ.lt
  have nhoo1 := fun g e => (hoo1.lt g e).2
  have nhoo2 := fun g e => (hoo2.lt g e).2
  have nhoo3 := fun g e => (hoo3.lt g e).2
  have nhoo4 := fun g e => (hoo4.lt g e).2
  go_wp2_with fail
  clear hF0 hF1 hF2 hF3 hF4
  have hG := Box.alloc W [.string f.n, .string f.r, .slice f1 f.ps.length h1, .slice f2 f.vs.length h2, .slice f3 f.bs.length h3] 30
  replace hP := (hP.al (.cells #[.string f.n, .string f.r, .slice f1 f.ps.length h1, .slice f2 f.vs.length h2, .slice f3 f.bs.length h3] 30))
  replace hF := (hF.al (.cells #[.string f.n, .string f.r, .slice f1 f.ps.length h1, .slice f2 f.vs.length h2, .slice f3 f.bs.length h3] 30))
  replace hI := (hI.al (.cells #[.string f.n, .string f.r, .slice f1 f.ps.length h1, .slice f2 f.vs.length h2, .slice f3 f.bs.length h3] 30))
  replace hM := (hM.al (.cells #[.string f.n, .string f.r, .slice f1 f.ps.length h1, .slice f2 f.vs.length h2, .slice f3 f.bs.length h3] 30))
  replace hV := (hV.al (.cells #[.string f.n, .string f.r, .slice f1 f.ps.length h1, .slice f2 f.vs.length h2, .slice f3 f.bs.length h3] 30))
  replace hQ := (hQ.al (.cells #[.string f.n, .string f.r, .slice f1 f.ps.length h1, .slice f2 f.vs.length h2, .slice f3 f.bs.length h3] 30))
  replace hoo1 := World.ownsRow.alloc hoo1 (.cells #[.string f.n, .string f.r, .slice f1 f.ps.length h1, .slice f2 f.vs.length h2, .slice f3 f.bs.length h3] 30)
  replace hoo2 := World.ownsRow.alloc hoo2 (.cells #[.string f.n, .string f.r, .slice f1 f.ps.length h1, .slice f2 f.vs.length h2, .slice f3 f.bs.length h3] 30)
  replace hoo3 := World.ownsRow.alloc hoo3 (.cells #[.string f.n, .string f.r, .slice f1 f.ps.length h1, .slice f2 f.vs.length h2, .slice f3 f.bs.length h3] 30)
  replace hoo4 := World.ownsRow.alloc hoo4 (.cells #[.string f.n, .string f.r, .slice f1 f.ps.length h1, .slice f2 f.vs.length h2, .slice f3 f.bs.length h3] 30)
  replace hb := hb.alloc hb.size (.cells #[.string f.n, .string f.r, .slice f1 f.ps.length h1, .slice f2 f.vs.length h2, .slice f3 f.bs.length h3] 30)
  generalize hgb : W.heap.size = gb at *
  generalize (W.alloc (.cells #[.string f.n, .string f.r, .slice f1 f.ps.length h1, .slice f2 f.vs.length h2, .slice f3 f.bs.length h3] 30)) = W at *
  clear hgb
  have hCv := fun w => Cells.v (w := w) (x := v) hz1 hz2
  have hbd := hb.drew
  have hPd := hP.drew
  have hFd := hF.drew
  have hId := hI.drew
  have hMd := hM.drew
  have hVd := hV.drew
  have hQd := hQ.drew
  have hGd := hG.drew
  have hoo1d := own_next hoo1 (Below.refl W.heap.size W).drew (Nat.le_refl _)
  have hoo2d := own_next hoo2 (Below.refl W.heap.size W).drew (Nat.le_refl _)
  have hoo3d := own_next hoo3 (Below.refl W.heap.size W).drew (Nat.le_refl _)
  have hoo4d := own_next hoo4 (Below.refl W.heap.size W).drew (Nat.le_refl _)
  have hlW : gb < W.heap.size := hG.lt
  have hlWd : gb < W.drew.heap.size := hlW
  go_wp2_with fail
  generalize hWd : W.drew = Wd at *
  refine wp_region_serF (S := ApS Wd 0 3 5 6 8 40 2 (f.vs.length) (1) C5 [.string v.n, .string v.t] [.string v.n, .string v.t] ⟨gb, 3, none⟩) rfl (by kernel_rfl) (ApS.start (by rw [hWd]; exact Below.refl _ _)) ?_
  refine SerF.free (fun _ => rfl) (fun V L w1 K' Q' hS hi hR hd hK => ?_) ?_
  · have a3 := hR.out 3 0 (by kernel_rfl) hi
    have a6 := hR.out 6 3 (by kernel_rfl) a3
    have a8 := hR.out 8 0 (by kernel_rfl) hi
    go_simp
    (try simp only [Act.put, List.setIfInBounds_toArray, List.set_cons_zero, List.set_cons_succ])
    exact hK.out _ _ rfl (hS.made a8 a3 a6 (by decide) (by decide) (by decide) (by decide))
  (try simp only [Act.put, List.setIfInBounds_toArray, List.set_cons_zero, List.set_cons_succ])
  ((refine SerF.step (a1 := ?_) (fun _ => rfl) (fun V L w1 K' Q' hS hi hR hd hK => ?_) ?_ ?_ ?_; rotate_left); (· ((skip); go_simp; (try simp only [Act.put, List.setIfInBounds_toArray, List.set_cons_zero, List.set_cons_succ]); exact hK.out _ (hS.keep rfl rfl rfl rfl rfl))); (· (intro V; rfl)); (· (exact fun _ _ _ _ _ _ => rfl)))
  ((refine SerF.step (a1 := ?_) (fun _ => rfl) (fun V L w1 K' Q' hS hi hR hd hK => ?_) ?_ ?_ ?_; rotate_left); (· ((have a8 := hR.out 8 2 (by kernel_rfl) hi; have f2 := (hFd.below (by first | exact hFd.lt | (rw [← hWd]; exact hFd.lt)) (hS.below a8)).c 3 _ rfl); go_simp; (try simp only [Act.put, List.setIfInBounds_toArray, List.set_cons_zero, List.set_cons_succ]); exact hK.out _ (hS.keep rfl rfl rfl rfl rfl))); (· (intro V; rfl)); (· (exact fun _ _ _ _ _ _ => rfl)))
  refine SerF.free (fun _ => rfl) (fun V L w1 K' Q' hS hi hR hd hK => ?_) ?_
  · have a6 := hR.out 6 3 (by kernel_rfl) hi
    have a8 := hR.out 8 3 (by kernel_rfl) hi
    have e0 := hd.out 0 (by kernel_rfl)
    have ho := (hS.1 a8).2.1 e0 hi
    have hbl := hbd.trans ((hS.below a8).mono hbd.size)
    refine wp_append_any _ _ 23 rfl Wd.heap.size 40 iv _ 2 32 Try.underlying23 iv0 iv1 iv2 iv3 rfl (by decide) _ 0 [] rfl ho f2 (f.vs.length) h2 C5 rfl eC5 lC5 (fun ad e j u hu => keepc hbl (aC5 ad e j u hu)) hC5.2.1 (by unfold maxLen; omega) (by omega) (hS.below a8).size (fun v' w' h1 h2 => ?_)
    have h1' : w'.ownsRow Wd.heap.size 40 2 v' (f.vs.length) C5 := by simpa using h1
    obtain ⟨pu2, ku2, rfl⟩ := own_sl h1'
    exact hK.out _ _ rfl (hS.first a8 e0 hi a6 (by decide) (by decide) (by decide) (by decide) h1' h2)
  (try simp only [Act.put, List.setIfInBounds_toArray, List.set_cons_zero, List.set_cons_succ])
  ((refine SerF.step (a1 := ?_) (fun _ => rfl) (fun V L w1 K' Q' hS hi hR hd hK => ?_) ?_ ?_ ?_; rotate_left); (· ((have a8 := hR.out 8 4 (by kernel_rfl) hi; have hVb := (hVd.below (by first | exact hVd.lt | (rw [← hWd]; exact hVd.lt)) (hS.below a8)); have g0 := hVb.c 0 _ rfl; have g1 := hVb.c 1 _ rfl); go_simp; (try simp only [Act.put, List.setIfInBounds_toArray, List.set_cons_zero, List.set_cons_succ]); exact hK.out _ (hS.keep rfl rfl rfl rfl rfl))); (· (intro V; rfl)); (· (exact fun _ _ _ _ _ _ => rfl)))
  refine SerF.free (fun _ => rfl) (fun V L w1 K' Q' hS hi hR hd hK => ?_) ?_
  · have a8 := hR.out 8 5 (by kernel_rfl) hi
    have a6 := hR.out 6 5 (by kernel_rfl) hi
    go_simp
    (try simp only [Act.put, List.setIfInBounds_toArray, List.set_cons_zero, List.set_cons_succ])
    exact hK.out _ _ rfl (hS.single a8 a6 (by decide) (by decide) (by decide) (by decide))
  (try simp only [Act.put, List.setIfInBounds_toArray, List.set_cons_zero, List.set_cons_succ])
  refine SerF.free (fun _ => rfl) (fun V L w1 K' Q' hS hi hR hd hK => ?_) ?_
  · have a8 := hR.out 8 6 (by kernel_rfl) hi
    have e3 := hd.out 3 (by kernel_rfl)
    have ho := (hS.1 a8).2.2.1 e3 hi
    have hbl := hbd.trans ((hS.below a8).mono hbd.size)
    obtain ⟨pu, ku, hV3⟩ := own_sl ho
    obtain ⟨pb, e5, pb1, pb2, hB5, -⟩ := (hS.1 a8).2.2.2.2 (hd.out 5 (by kernel_rfl)) hi
    refine wp_append_any _ _ 23 rfl Wd.heap.size 40 iv _ 2 32 Try.underlying23 iv0 iv1 iv2 iv3 rfl (by decide) _ (f.vs.length) _ rfl ho (some ⟨pb, 0, none⟩) 1 1 [.string v.n, .string v.t] e5 (fun e => by cases e) rfl (fun ad e j u hu => by injection e with e; subst e; rw [add_at, Nat.zero_add]; exact hB5.c j u hu) (hCv w).2.1 (by unfold maxLen; omega) (by omega) (hS.below a8).size (fun v' w' h1 h2 => ?_)
    obtain ⟨pu2, ku2, rfl⟩ := own_sl h1
    exact hK.out _ _ rfl (hS.second a8 e3 hi (by decide) (by decide) h1 h2)
  (try simp only [Act.put, List.setIfInBounds_toArray, List.set_cons_zero, List.set_cons_succ])
  ((refine SerF.step (a1 := ?_) (fun _ => rfl) (fun V L w1 K' Q' hS hi hR hd hK => ?_) ?_ ?_ ?_; rotate_left); (· ((skip); go_simp; (try simp only [Act.put, List.setIfInBounds_toArray, List.set_cons_zero, List.set_cons_succ]); exact hK.out _ (hS.keep rfl rfl rfl rfl rfl))); (· (intro V; rfl)); (· (exact fun _ _ _ _ _ _ => rfl)))
  refine SerF.val undef (fun _ => rfl) (fun V L w1 K' Q' hS hi hR hd hK => ?_) ?_
  · have e6 := hd.out 6 (by kernel_rfl)
    have hbx := hS.below hi
    have hB := hGd.below (by first | exact hGd.lt | (rw [← hWd]; exact hGd.lt)) hbx
    have g := hB.c 3 _ rfl
    have gf := hB.f 3 (by simp)
    obtain ⟨pu, ku, hV6⟩ := own_sl ((hS.1 hi).2.2.2.1 e6)
    have hS2 := hS.stored hi e6
    rw [hV6] at hS2
    simp only [hV6]
    go_simp
    refine hK.out _ _ (by simp only [hV6]; rfl) hS2
  simp only [Act.put]
  refine SerF.nil fun V w1 hS => ?_
  obtain ⟨W1, pu5, ku5, hV6, hbx, ho5, rfl⟩ := hS.done rfl
  simp only [hV6]
  clear hS hV6
  replace hlWd : gb < Wd.heap.size := by first | exact hlWd | (rw [← hWd]; exact hlWd)
  have hb2 := (hbd.trans (hbx.mono hbd.size)).setCell (p := ⟨gb, 3, none⟩) (by dsimp only; omega) (.slice pu5 (f.vs.length + 1) ku5)
  have hP2 := (hPd.below hPd.lt hbx).far (q := ⟨gb, 3, none⟩) (by dsimp only; omega) (.slice pu5 (f.vs.length + 1) ku5)
  have hF2 := (hFd.below hFd.lt hbx).far (q := ⟨gb, 3, none⟩) (by dsimp only; omega) (.slice pu5 (f.vs.length + 1) ku5)
  have hI2 := (hId.below hId.lt hbx).far (q := ⟨gb, 3, none⟩) (by dsimp only; omega) (.slice pu5 (f.vs.length + 1) ku5)
  have hM2 := (hMd.below hMd.lt hbx).far (q := ⟨gb, 3, none⟩) (by dsimp only; omega) (.slice pu5 (f.vs.length + 1) ku5)
  have hV2 := (hVd.below hVd.lt hbx).far (q := ⟨gb, 3, none⟩) (by dsimp only; omega) (.slice pu5 (f.vs.length + 1) ku5)
  have hQ2 := (hQd.below hQd.lt hbx).far (q := ⟨gb, 3, none⟩) (by dsimp only; omega) (.slice pu5 (f.vs.length + 1) ku5)
  have hG2 := (hGd.below hGd.lt hbx).set (i := 3) (by simp) (.slice pu5 (f.vs.length + 1) ku5)
  have hoo12 := own_far2 (q := gb) (i := 3) (u := .slice pu5 (f.vs.length + 1) ku5) (own_next hoo1d hbx (Nat.le_refl _)) (fun e => by have := nhoo1 _ e; omega)
  have hoo22 := own_far2 (q := gb) (i := 3) (u := .slice pu5 (f.vs.length + 1) ku5) (own_next hoo2d hbx (Nat.le_refl _)) (fun e => by have := nhoo2 _ e; omega)
  have hoo32 := own_far2 (q := gb) (i := 3) (u := .slice pu5 (f.vs.length + 1) ku5) (own_next hoo3d hbx (Nat.le_refl _)) (fun e => by have := nhoo3 _ e; omega)
  have hoo42 := own_far2 (q := gb) (i := 3) (u := .slice pu5 (f.vs.length + 1) ku5) (own_next hoo4d hbx (Nat.le_refl _)) (fun e => by have := nhoo4 _ e; omega)
  replace ho5 := own_far (q := gb) (i := 3) (u := .slice pu5 (f.vs.length + 1) ku5) ho5 hlWd
  have hqW := hbx.size
  clear hb hbd hP hF hI hM hV hQ hG hPd hFd hId hMd hVd hQd hGd hoo1 hoo1d hoo2 hoo2d hoo3 hoo3d hoo4 hoo4d hbx
  generalize hW2 : (W1.setCell ⟨gb, 3, none⟩ (.slice pu5 (f.vs.length + 1) ku5)) = W at *
  clear hW2
  have hb := hb2
  have hP := hP2
  have hF := hF2
  have hI := hI2
  have hM := hM2
  have hV := hV2
  have hQ := hQ2
  have hG := hG2
  have hoo1 := hoo12
  have hoo2 := hoo22
  have hoo3 := hoo32
  have hoo4 := hoo42
  clear hb2 hP2 hF2 hI2 hM2 hV2 hQ2 hG2 hoo12 hoo22 hoo32 hoo42
  obtain ⟨Bk5, hBk5, hoo5⟩ : ∃ B, gb < B ∧ W.ownsRow B 40 2 (.slice pu5 (f.vs.length + 1) ku5) (f.vs.length + 1) (C5 ++ [.string v.n, .string v.t]) := ⟨_, hlWd, ho5⟩
  clear ho5 hWd hlW hlWd hqW
  replace hQ : Box W qb [.bool p.ssa, .slice pu1 (p.cs.length + m.cs.length) ku1, .slice pu2 (p.gs.length + m.gs.length) ku2, .slice pu3 (p.xs.length + m.xs.length) ku3, .slice pu4 (p.fs.length + m.fs.length) ku4] := hQ
  replace hG : Box W gb [.string f.n, .string f.r, .slice f1 f.ps.length h1, .slice pu5 (f.vs.length + 1) ku5, .slice f3 f.bs.length h3] := hG
  have hr1 : Row AtC 2 W (.slice pu1 (p.cs.length + m.cs.length) ku1) (p.cs ++ m.cs) := (hC1.app hD1).row hb (by rw [List.length_append]; exact hoo1) (by have a1 := hQ1.out.1.c; have a2 := hQ2.out.c; rw [List.length_append]; omega)
  have hr2 : Row AtV 2 W (.slice pu2 (p.gs.length + m.gs.length) ku2) (p.gs ++ m.gs) := (hC2.app hD2).row hb (by rw [List.length_append]; exact hoo2) (by have a1 := hQ1.out.1.g; have a2 := hQ2.out.g; rw [List.length_append]; omega)
  have hr3 : Row AtX 2 W (.slice pu3 (p.xs.length + m.xs.length) ku3) (p.xs ++ m.xs) := (hC3.app hD3).row hb (by rw [List.length_append]; exact hoo3) (by have a1 := hQ1.out.1.x; have a2 := hQ2.out.x; rw [List.length_append]; omega)
  have hr4 : Row AtF 5 W (.slice pu4 (p.fs.length + m.fs.length) ku4) (p.fs ++ m.fs) := (hC4.app hD4).row hb (by rw [List.length_append]; exact hoo4) (by have a1 := hQ1.out.1.f; have a2 := hQ2.out.f; rw [List.length_append]; omega)
  have hr5 : Row AtV 2 W (.slice pu5 (f.vs.length + 1) ku5) (f.vs ++ [v]) := (hC5.app (hCv w)).row hb (by rw [List.length_append]; exact hoo5) (by rw [List.length_append]; simp; omega)
  have hq : ValP W (.agg #[.bool p.ssa, .slice pu1 (p.cs.length + m.cs.length) ku1, .slice pu2 (p.gs.length + m.gs.length) ku2, .slice pu3 (p.xs.length + m.xs.length) ku3, .slice pu4 (p.fs.length + m.fs.length) ku4]) (moreP p m) _ _ _ _ := ⟨rfl, hr1, hr2, hr3, hr4⟩
  have hg : ValF W (.agg #[.string f.n, .string f.r, .slice f1 f.ps.length h1, .slice pu5 (f.vs.length + 1) ku5, .slice f3 f.bs.length h3]) (moreF f v) _ _ _ := ⟨rfl, fz, fp.v hb, hr5, fb.bk hb⟩
  have hIn := instr_val (Below.refl W.heap.size W) hq hg (hxv.kp hb)
  rw [hInsM.out] at hIn
  clear hr1 hr2 hr3 hr4 hr5 hq hg hoo1 hoo2 hoo3 hoo4 hoo5 hP hF hM hV hInsM hQ1 hQ2 hCv
  have hQ0 := hQ.c 0 _ rfl
  have hQ1 := hQ.c 1 _ rfl
  have hQ2 := hQ.c 2 _ rfl
  have hQ3 := hQ.c 3 _ rfl
  have hQ4 := hQ.c 4 _ rfl
  have hG0 := hG.c 0 _ rfl
  have hG1 := hG.c 1 _ rfl
  have hG2 := hG.c 2 _ rfl
  have hG3 := hG.c 3 _ rfl
  have hG4 := hG.c 4 _ rfl
  have hI0 := hI.c 0 _ rfl
  have hI1 := hI.c 1 _ rfl
  have hI2 := hI.c 2 _ rfl
  have hI3 := hI.c 3 _ rfl
  have hI4 := hI.c 4 _ rfl
  have hI5 := hI.c 5 _ rfl
  go_wp2_with fail
  refine hIn.mono ?_
  rintro e w9 ⟨rfl, hd⟩
  replace hb := bthen' hb hd
  clear hd hIn
  go_wp2_with fail
  go_ret
  exact ⟨rfl, hb⟩
section
open Go.ChangeShapes Go.WideShapes Go.ChangeAt Go.Deep
variable (H : Type) (enc : TypeId × Value → H) (W : World) (base : Nat) (args : Array Value) (ds gs : List (DataW H)) (before : List MemPlace)
set_option maxRecDepth 100000 in
theorem typesKeep_all (hval : ∀ (j : Nat) t v, Try.f5.params[j]? = some t → args[j]? = some v → Value.okWide Try.prog W .any base t v)
    (hW : DataW.Whole enc Try.prog Try.f5.params.toList Rows.typesKeepSpec.vars false W args.toList ds gs before)
    (hk : (DataW.weightsEach Try.prog (Try.f5.params.toList ++ Rows.typesKeepSpec.plain.varTypes Try.prog) (ds ++ gs)).all (· ≤ reachBytes) = true) :
    Calls Try.prog 5 args W fun e W' => e = .returned (.bool true) ∧ Below W.heap.size W W' := by
  obtain ⟨p, q, hA0, hV, rfl, _, _⟩ := hW
  have hA : DataW.TrodAll enc Try.prog W 0 (fun _ => true) true Try.f5.params.toList args.toList ds p := hA0
  rw [Try.params5] at hA hval hk
  obtain ⟨v0, vs0, d0, ds0, p0, q0, hargs, rfl, rfl, h0, r0⟩ := trodAll_cons hA
  obtain ⟨v1, vs1, d1, ds1, p1, q1, rfl, rfl, rfl, h1, r1⟩ := trodAll_cons r0
  obtain ⟨v2, vs2, d2, ds2, p2, q2, rfl, rfl, rfl, h2, r2⟩ := trodAll_cons r1
  obtain ⟨v3, vs3, d3, ds3, p3, q3, rfl, rfl, rfl, h3, r3⟩ := trodAll_cons r2
  obtain ⟨v4, vs4, d4, ds4, p4, q4, rfl, rfl, rfl, h4, r4⟩ := trodAll_cons r3
  obtain ⟨rfl, rfl, rfl⟩ := trodAll_nil r4
  obtain rfl : args = #[v0, v1, v2, v3, v4] := by cases args; simp_all
  obtain ⟨c0, rfl, k0⟩ := rd_of Try.underlying27 (hval 0 _ v0 rfl rfl) h0 (wt_of hk (j := 0) rfl rfl)
  obtain ⟨c1, rfl, k1⟩ := rd_of Try.underlying30 (hval 1 _ v1 rfl rfl) h1 (wt_of hk (j := 1) rfl rfl)
  obtain ⟨c2, rfl, k2⟩ := rd_of Try.underlying65 (hval 2 _ v2 rfl rfl) h2 (wt_of hk (j := 2) rfl rfl)
  obtain ⟨c3, rfl, k3⟩ := rd_of Try.underlying27 (hval 3 _ v3 rfl rfl) h3 (wt_of hk (j := 3) rfl rfl)
  obtain ⟨c4, rfl, k4⟩ := rd_of Try.underlying40 (hval 4 _ v4 rfl rfl) h4 (wt_of hk (j := 4) rfl rfl)
  obtain ⟨p, u1, u2, u3, u4, hp⟩ := in_p k0
  obtain ⟨f, y1, y2, y3, hf⟩ := in_f k1
  obtain ⟨x, z1, z2, z3, hx⟩ := in_i k2
  obtain ⟨m, o1, o2, o3, o4, hm⟩ := in_p k3
  obtain ⟨v, rfl, e1, e2⟩ := in_v k4
  exact keep_walk hp hf hx hm e1 e2
end
end Go.Proofs.Ytjohjpjpfglkkaa
