/- The law of finding. -/
import Derived.Test.YtjohjpjpfglkkaaLfin
namespace Go.Proofs.Ytjohjpjpfglkkaa
open Go.RowKit

theorem wt_of {H : Type} {P : Program} {ts : List TypeId} {ds : List (DataW H)} (hk : (DataW.weightsEach P ts ds).all (· ≤ reachBytes) = true) {j : Nat} {t : TypeId} {d : DataW H} (ht : ts[j]? = some t) (hd : ds[j]? = some d) : ∀ k ∈ DataW.weights P t d, k ≤ 140737488351232 := fun k hm => by
  have := List.all_eq_true.1 hk k (DataW.weights_mem_each ht hd k hm)
  exact of_decide_eq_true this
def cN : Option Cl → ByteArray
  | some c => c.n
  | none => ⟨#[]⟩
def cL : Option Cl → Nat
  | some c => c.fs.length
  | none => 0
def xN : Option Ex → ByteArray
  | some c => c.n
  | none => ⟨#[]⟩
def xK : Option Ex → Int
  | some c => c.k
  | none => 0
def sN : Option ByteArray → ByteArray
  | some c => c
  | none => ⟨#[]⟩
def fO : Option Fn → Fn
  | some c => c
  | none => ⟨⟨#[]⟩, ⟨#[]⟩, [], [], []⟩
theorem OutC.form {w : World} {r : Option Cl} {e : Ending} (h : OutC w r e) : ∃ q c, e = .returned (.tuple #[.agg #[.string (cN r), .slice q (cL r) c], .bool r.isSome]) := by
  cases r with
  | none => exact ⟨none, 0, h⟩
  | some c =>
    obtain ⟨v, u, rfl, hv⟩ := h
    obtain ⟨q, k, rfl⟩ := hv.f.slice
    exact ⟨q, k, by rw [hv.e]; rfl⟩
theorem OutX.form {w : World} {r : Option Ex} {e : Ending} (h : OutX w r e) : e = .returned (.tuple #[.agg #[.string (xN r), .int .i64 (xK r)], .bool r.isSome]) := by
  cases r with
  | none => exact h
  | some c => exact h.1
theorem OutS.form {r : Option ByteArray} {e : Ending} (h : OutS r e) : e = .returned (.tuple #[.string (sN r), .bool r.isSome]) := by
  cases r with
  | none => exact h
  | some c => exact h.1
theorem OutF.form {w : World} {r : Option Fn} {e : Ending} (h : OutF w r e) : ∃ q c qq cc qqq ccc, e = .returned (.tuple #[.agg #[.string (fO r).n, .string (fO r).r, .slice q (fO r).ps.length c, .slice qq (fO r).vs.length cc, .slice qqq (fO r).bs.length ccc], .bool r.isSome]) ∧
    ∃ u1 u2 u3, ValF w (.agg #[.string (fO r).n, .string (fO r).r, .slice q (fO r).ps.length c, .slice qq (fO r).vs.length cc, .slice qqq (fO r).bs.length ccc]) (fO r) u1 u2 u3 := by
  cases r with
  | none => exact ⟨none, 0, none, 0, none, 0, h, _, _, _, rfl, ⟨by decide, by decide⟩, row_nil, row_nil, row_nil⟩
  | some f =>
    obtain ⟨v, u1, u2, u3, rfl, hv⟩ := h
    obtain ⟨q, c, rfl⟩ := hv.p.slice
    obtain ⟨qq, cc, rfl⟩ := hv.v.slice
    obtain ⟨qqq, ccc, rfl⟩ := hv.b.slice
    exact ⟨q, c, qq, cc, qqq, ccc, by rw [hv.e]; rfl, _, _, _, rfl, hv.z, hv.p, hv.v, hv.b⟩
theorem finds_main {w : World} {p : Pg} {vp u1 u2 u3 u4 : Value} (hp : ValP w vp p u1 u2 u3 u4) {f : Fn} {vf g1 g2 g3 : Value} (hf : ValF w vf f g1 g2 g3) (a b : ByteArray) (x : Ag) :
    Calls Try.prog 3 #[vp, vf, .string a, .string b, .agg #[.int .i64 x.k, .string x.s, .int .i64 x.n]] w fun e w' => e = .returned (.bool true) ∧ Below w.heap.size w w' := by
  have e1 := hp.e
  have e2 := hf.e
  subst e1
  subst e2
  refine finds_walk w p.ssa u1 u2 u3 u4 f.n f.r g1 g2 g3 a b x.k x.s x.n (cN (findB Cl.n a p.cs)) (vN (fieldOf p a b)) (vT (fieldOf p a b)) (fO (findB Fn.n a p.fs)).n (fO (findB Fn.n a p.fs)).r (vN (findB Vr.n a p.gs)) (vT (findB Vr.n a p.gs)) (xN (findB Ex.n a p.xs)) (sN (tyOf f x)) (cL (findB Cl.n a p.cs)) (fO (findB Fn.n a p.fs)).ps.length (fO (findB Fn.n a p.fs)).vs.length (fO (findB Fn.n a p.fs)).bs.length (xK (findB Ex.n a p.xs)) (findB Cl.n a p.cs).isSome (fieldOf p a b).isSome (findB Fn.n a p.fs).isSome (findB Vr.n a p.gs).isSome (findB Ex.n a p.xs).isSome (tyOf f x).isSome (fitsB a b) (fun v => ∃ u1 u2 u3, ValF w v (fO (findB Fn.n a p.fs)) u1 u2 u3)
    awake_val (fun W hW => (few_val hW hp hf).mono fun e w' ⟨h1, b, h2, _⟩ => ⟨h1, b, h2⟩) ?_ ?_ ?_ ?_ ?_ ?_ ?_ ?_ ?_ ?_ ?_ ?_ ?_ (fits_val a b) (rfits_val a b)
  · exact fun W hW => (lookC_val hW hp a).mono fun e w' h => ⟨h.1, h.2.form⟩
  · exact fun W hW => (rlookC_val hW hp a).mono fun e w' h => ⟨h.1, h.2.form⟩
  · exact fun W hW => (fld_val hW hp a b).mono fun e w' h => ⟨h.1, h.2.eq⟩
  · exact fun W hW => (rfld_val hW hp a b).mono fun e w' h => ⟨h.1, h.2.eq⟩
  · exact fun W hW => (lookF_val hW hp a).mono fun e w' h => ⟨h.1, h.2.form⟩
  · exact fun W hW => (rlookF_val hW hp a).mono fun e w' h => ⟨h.1, h.2.form⟩
  · exact fun W hW => (lookV_val hW hp a).mono fun e w' h => ⟨h.1, h.2.eq⟩
  · exact fun W hW => (rglob_val hW hp a).mono fun e w' h => ⟨h.1, h.2.eq⟩
  · exact fun W hW => (lookX_val hW hp a).mono fun e w' h => ⟨h.1, h.2.form⟩
  · exact fun W hW => (rlookX_val hW hp a).mono fun e w' h => ⟨h.1, h.2.form⟩
  · exact fun W hW => (of_val hW hf x).mono fun e w' h => ⟨h.1, h.2.form⟩
  · exact fun W hW => (rof_val hW hf x).mono fun e w' h => ⟨h.1, h.2.form⟩
  · rintro W hW v v' ⟨_, _, _, h1⟩ ⟨_, _, _, h2⟩
    exact sameFunc_val hW h1 h2
section
open Go.ChangeShapes Go.WideShapes Go.ChangeAt Go.Deep
variable (H : Type) (enc : TypeId × Value → H) (W : World) (base : Nat) (args : Array Value) (ds gs : List (DataW H)) (before : List MemPlace)
set_option maxRecDepth 100000 in
theorem typesFinds_all (hval : ∀ (j : Nat) t v, Try.f3.params[j]? = some t → args[j]? = some v → Value.okWide Try.prog W .any base t v)
    (hW : DataW.Whole enc Try.prog Try.f3.params.toList Rows.typesFindsSpec.vars false W args.toList ds gs before)
    (hk : (DataW.weightsEach Try.prog (Try.f3.params.toList ++ Rows.typesFindsSpec.plain.varTypes Try.prog) (ds ++ gs)).all (· ≤ reachBytes) = true) :
    Calls Try.prog 3 args W fun e W' => e = .returned (.bool true) ∧ Below W.heap.size W W' := by
  obtain ⟨p, q, hA0, hV, rfl, _, _⟩ := hW
  have hA : DataW.TrodAll enc Try.prog W 0 (fun _ => true) true Try.f3.params.toList args.toList ds p := hA0
  rw [Try.params3] at hA hval hk
  obtain ⟨v0, vs0, d0, ds0, p0, q0, hargs, rfl, rfl, h0, r0⟩ := trodAll_cons hA
  obtain ⟨v1, vs1, d1, ds1, p1, q1, rfl, rfl, rfl, h1, r1⟩ := trodAll_cons r0
  obtain ⟨v2, vs2, d2, ds2, p2, q2, rfl, rfl, rfl, h2, r2⟩ := trodAll_cons r1
  obtain ⟨v3, vs3, d3, ds3, p3, q3, rfl, rfl, rfl, h3, r3⟩ := trodAll_cons r2
  obtain ⟨v4, vs4, d4, ds4, p4, q4, rfl, rfl, rfl, h4, r4⟩ := trodAll_cons r3
  obtain ⟨rfl, rfl, rfl⟩ := trodAll_nil r4
  obtain rfl : args = #[v0, v1, v2, v3, v4] := by cases args; simp_all
  obtain ⟨c0, rfl, k0⟩ := rd_of Try.underlying27 (hval 0 _ v0 rfl rfl) h0 (wt_of hk (j := 0) rfl rfl)
  obtain ⟨c1, rfl, k1⟩ := rd_of Try.underlying30 (hval 1 _ v1 rfl rfl) h1 (wt_of hk (j := 1) rfl rfl)
  obtain ⟨a, rfl, _, _, -⟩ := Go.ChangeMaps.open_string Try.underlying9 (hval 2 _ v2 rfl rfl) h2
  obtain ⟨b, rfl, _, _, -⟩ := Go.ChangeMaps.open_string Try.underlying9 (hval 3 _ v3 rfl rfl) h3
  obtain ⟨c4, rfl, k4⟩ := rd_of Try.underlying32 (hval 4 _ v4 rfl rfl) h4 (wt_of hk (j := 4) rfl rfl)
  obtain ⟨p, u1, u2, u3, u4, hp⟩ := in_p k0
  obtain ⟨f, g1, g2, g3, hf⟩ := in_f k1
  obtain ⟨x, rfl, -⟩ := in_a k4
  exact finds_main hp hf a b x
end
end Go.Proofs.Ytjohjpjpfglkkaa
