/- StylesLines: the card of its bounded form. Condition: what is read is of bulk at most 1048576. -/
import Derived.Test.YtgilkaonmhlifaaDoorLnL4
import Derived.Test.YtgilkaonmhlifaaDoorLnS4
import Derived.Test.YtgilkaonmhlifaaDoorCards
import Derived.Test.YtgilkaonmhlifaaDoorTie
import Derived.WalkKit
import Derived.ProofKit
import Derived.OpenShut
import Derived.Deep.DeepHandedRow
import Derived.Lib.LaidTab
import Derived.Deep.DeepWitnessRowRef
import Derived.LaidMore
namespace Go.Proofs.YtgilkaonmhlifaaDoor.Dn
open Go.Den Go.ChangeShapes Go.WideShapes Go.RowKit Go.ChangeAt
set_option maxRecDepth 100000

theorem cells3 : Tryd.prog.cellsOf 3 = 1 := by kernel_rfl
theorem cells23 : Tryd.prog.cellsOf 23 = 2 := by kernel_rfl
theorem cells103 : Tryd.prog.cellsOf 103 = 2 := by kernel_rfl
section
variable {H : Type} {enc : TypeId × Value → H} {E : Env} {W : World}

/-- Two numbers side by side. -/
theorem rd_two {t t0 t1 : TypeId} {f0 f1 : Field} {k0 k1 : IntKind} (N : Nat) (ht : Tryd.prog.underlying t = some (.struct #[f0, f1])) (hc : Tryd.prog.cellsOf t = 2) (h0 : f0.type = t0) (h1 : f1.type = t1) (o0 : f0.offset = 0) (o1 : f1.offset = 1)
    (u0 : Tryd.prog.underlying t0 = some (.int k0)) (u1 : Tryd.prog.underlying t1 = some (.int k1)) (c0 : Tryd.prog.cellsOf t0 = 1) (c1 : Tryd.prog.cellsOf t1 = 1) :
    Rd enc Tryd.prog E W N t (fun p : Int × Int => [.v (.int k0 p.1), .v (.int k1 p.2)]) := by
  intro n hn cs d ps h
  obtain ⟨y0, y1, m, hx, hl, e0, e1⟩ := trod_struct2 ht h
  obtain ⟨rfl, rfl⟩ := Prod.mk.inj hx
  subst h0 h1
  rw [hc] at hl
  rw [o0, c0] at e0
  rw [o1, c1] at e1
  obtain ⟨a, ha, ha2, ha3⟩ := DataW.trod_int u0 e0
  obtain ⟨b, hb, hb2, hb3⟩ := DataW.trod_int u1 e1
  subst ha2 hb2
  refine ⟨(a, b), ?_, by simp [D.bulkL, D.bulk, bulkW, bulkWs], by simp [D.wfL, D.wfB, ha3, hb3]⟩
  have e : cs = [.int k0 a, .int k1 b] := by
    match cs, hl with
    | [x, y], _ => simp at ha hb; rw [ha, hb]
  rw [e]
  exact VL.app (a := [_]) (us := [_]) (VL.one (.v rfl)) (VL.one (.v rfl))

theorem arg_face {v : Value} {d : DataW H} {p : List MemPlace} (h : DataW.Trod enc Tryd.prog W 0 (fun _ => true) true 23 v d p) (hv : ∃ cs, v = .agg cs) :
    ∃ f : Int × Int, V E .fresh (Gh.start W) W (fD f) v := by
  obtain ⟨fuel, h⟩ := h
  obtain ⟨cs, rfl⟩ := hv
  obtain ⟨f, h1, _, _⟩ := rd_two (enc := enc) (E := E) (W := W) fuel Tryd.underlying23 cells23 rfl rfl rfl rfl Tryd.underlying5 Tryd.underlying5 cells5 cells5 fuel (Nat.le_refl _) _ _ _ h
  have h1' : VL E W [.v (.int .u8 f.1), .v (.int .u8 f.2)] cs.toList := h1
  refine ⟨f, ?_⟩
  have := V.agg (E := E) (c := .fresh) (g := Gh.start W) (w := W) h1'.1 h1'.2
  unfold fD
  simpa using this

theorem rd_toks (N : Nat) : Rd enc Tryd.prog E W (N + 1) 24 (fun l : List (Int × Int) => [.sl 0 2 (l.map tD)]) :=
  rd_slice tD Tryd.underlying24 cells103 (by decide) (fun _ => rfl) (fun p => by simp [tD, D.bulk]) (fun p => by simp [tD, D.wfB]) (rd_two N Tryd.underlying103 cells103 rfl rfl rfl rfl Tryd.underlying3 Tryd.underlying21 cells3 cells21)

theorem arg_toks {v : Value} {d : DataW H} {p : List MemPlace} (h : DataW.Trod enc Tryd.prog W 0 (fun _ => true) true 24 v d p) (hv : v.cells.toList = [v]) :
    ∃ l : List (Int × Int), V E .fresh (Gh.start W) W (.sl 0 2 (em tD l)) v ∧ l.length + 1 ≤ bulkW d := by
  obtain ⟨fuel, h⟩ := h
  obtain ⟨l, h1, h2, h3⟩ := rd_toks (enc := enc) (E := E) (W := W) fuel fuel (by omega) _ _ _ h
  refine ⟨l, ?_, ?_⟩
  · have := h1.2 0 _ rfl
    rw [hv] at this
    exact this
  · have e : D.bulkL [.sl 0 2 (l.map tD)] = (l.map fun x => (tD x).bulk).sum + 1 := by simp [D.bulkL, D.bulk, bulkL_map]
    have e2 : (l.map fun x => (tD x).bulk).sum = 2 * l.length := by
      clear h1 h2 h3 e
      induction l with
      | nil => rfl
      | cons x l ih => simp only [List.map_cons, List.sum_cons, ih, List.length_cons]; simp [tD, D.bulk, D.bulkL]; omega
    rw [e, e2] at h2
    omega

theorem arg_str {t : TypeId} (ht : Tryd.prog.underlying t = some .string) {v : Value} {d : DataW H} {p : List MemPlace} (h : DataW.Trod enc Tryd.prog W 0 (fun _ => true) true t v d p) (hv : v.cells.toList = [v]) :
    ∃ s : ByteArray, V E .fresh (Gh.start W) W (.v (.string s)) v ∧ s.size + 1 ≤ bulkW d := by
  obtain ⟨fuel, h⟩ := h
  obtain ⟨s, h1, h2, h3⟩ := rd_str (enc := enc) (E := E) (W := W) (N := fuel) ht fuel (Nat.le_refl _) _ _ _ h
  refine ⟨s, ?_, ?_⟩
  · have := h1.2 0 _ rfl
    rw [hv] at this
    exact this
  · simpa [D.bulkL, D.bulk] using h2

theorem lines_contract (H : Type) (enc : TypeId × Value → H) (W : World) (base : Nat) (args : Array Value) (ds gs : List (DataW H)) (before : List MemPlace)
    (hval : ∀ (j : Nat) t v, Tryd.f3.params[j]? = some t → args[j]? = some v → Value.okWide Tryd.prog W .any base t v)
    (hW : DataW.Whole enc Tryd.prog Tryd.f3.params.toList Rows.stylesLinesSpec.vars false W args.toList ds gs before) (hk : Rows.uptoSmall H (ds ++ gs) = true) (hL : laidMetH Tryd.prog Rows.stylesLinesUptoRow.laid W) :
    Calls Tryd.prog 3 args W fun e W' => ∃ v, e = .returned v ∧ Rows.stylesLinesSpec.post enc Tryd.prog Tryd.f3 false true false false W args v W' := by
  have hW' := hW
  obtain ⟨p, q, hA0, hV, _, _, _⟩ := hW
  have hA : DataW.TrodAll enc Tryd.prog W 0 (fun _ => true) true [23, 24, 24, 9] args.toList ds p := hA0
  obtain ⟨v0, v1, v2, v3, d0, d1, d2, d3, p0, p1, p2, p3, rfl, rfl, _, h0, h1, h2, h3⟩ := trodAll_four hA
  obtain ⟨rfl, rfl⟩ := trodVars_none hV
  have hb := small hk
  simp only [List.append_nil, bulkWs] at hb
  have hv0 : ∃ cs, v0 = .agg cs := by
    have := hval 0 23 v0 rfl rfl
    simp only [Value.okWide, Tryd.underlying23] at this
    obtain ⟨cs, h, _⟩ := this
    exact ⟨cs, h⟩
  obtain ⟨a1, n1, c1, rfl⟩ := okWide_slice Tryd.underlying24 (hval 1 24 v1 rfl rfl)
  obtain ⟨a2, n2, c2, rfl⟩ := okWide_slice Tryd.underlying24 (hval 2 24 v2 rfl rfl)
  obtain ⟨s3, rfl⟩ := okWide_string Tryd.underlying9 (hval 3 9 v3 rfl rfl)
  obtain ⟨f, x0⟩ := arg_face (E := env gT) h0 hv0
  obtain ⟨l1, x1, b1⟩ := arg_toks (E := env gT) h1 rfl
  obtain ⟨l2, x2, b2⟩ := arg_toks (E := env gT) h2 rfl
  obtain ⟨s, x3, b3⟩ := arg_str (E := env gT) Tryd.underlying9 h3 rfl
  obtain ⟨ps, ⟨g1, t1, cs1, fu1, pp1, q1, e11, e12, e13, e14, ⟨g2, t2, cs2, fu2, pp2, q2, e21, e22, e23, e24, ⟨g3, t3, cs3, fu3, pp3, q3, e31, e32, e33, e34, _, _⟩, _⟩, _⟩, _⟩ := (show laidMet Tryd.prog Rows.stylesLinesUptoRow.laid W from hL)
  obtain rfl := Option.some.inj (gGap.symm.trans e31)
  obtain rfl := Option.some.inj (gGapT.symm.trans e32)
  have hI := gap_inv e33 (cells_glyph e34)
  obtain ⟨d, c', hF, rfl⟩ := lines_ok f l1 l2 s (by omega)
  refine (law_calls gT_ok hF (vs := [_, _, _, _]) hI rfl (fun i d hi => ?_)).mono ?_
  · match i with
    | 0 => simp at hi; subst hi; exact x0
    | 1 => simp at hi; subst hi; exact x1
    | 2 => simp at hi; subst hi; exact x2
    | 3 => simp at hi; subst hi; exact x3
    | i + 4 => simp at hi
  · rintro e W' ⟨rfl, hB⟩
    exact ⟨_, rfl, law_post laidOut hW' rfl rfl rfl Tryd.underlying4 (by kernel_rfl) hB⟩
end
end Go.Proofs.YtgilkaonmhlifaaDoor.Dn
