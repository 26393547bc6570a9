/- StylesJoins: the card of its bounded form. Condition: what is read is of bulk at most 1048576. -/
import Derived.Test.YtgilkaonmhlifaaDoorJoS4
import Derived.Test.YtgilkaonmhlifaaDoorCards
import Derived.Test.YtgilkaonmhlifaaDoorTie
import Derived.WalkKit
import Derived.ProofKit
import Derived.OpenShut
import Derived.Deep.DeepHandedRow
import Derived.Lib.LaidTab
namespace Go.Proofs.YtgilkaonmhlifaaDoor.Dn
open Go.Den Go.ChangeShapes Go.WideShapes Go.RowKit Go.ChangeAt
set_option maxRecDepth 100000

theorem joins_contract (H : Type) (enc : TypeId × Value → H) (W : World) (base : Nat) (args : Array Value) (ds gs : List (DataW H)) (before : List MemPlace)
    (hval : ∀ (j : Nat) t v, Tryd.f4.params[j]? = some t → args[j]? = some v → Value.okWide Tryd.prog W .any base t v)
    (hW : DataW.Whole enc Tryd.prog Tryd.f4.params.toList Rows.stylesJoinsSpec.vars false W args.toList ds gs before) (hk : Rows.uptoSmall H (ds ++ gs) = true) (hL : laidMetH Tryd.prog Rows.stylesJoinsUptoRow.laid W) :
    Calls Tryd.prog 4 args W fun e W' => ∃ v, e = .returned v ∧ Rows.stylesJoinsSpec.post enc Tryd.prog Tryd.f4 false true false false W args v W' := by
  have hW' := hW
  obtain ⟨p, q, hA0, hV, _, _, _⟩ := hW
  have hA : DataW.TrodAll enc Tryd.prog W 0 (fun _ => true) true [26, 26, 26] args.toList ds p := hA0
  obtain ⟨v0, v1, v2, d0, d1, d2, p0, p1, p2, rfl, rfl, _, h0, h1, h2⟩ := trodAll_three hA
  obtain ⟨rfl, rfl⟩ := trodVars_none hV
  have hb := small hk
  simp only [List.append_nil, bulkWs] at hb
  obtain ⟨a0, n0, c0, rfl⟩ := okWide_slice Tryd.underlying26 (hval 0 26 v0 rfl rfl)
  obtain ⟨a1, n1, c1, rfl⟩ := okWide_slice Tryd.underlying26 (hval 1 26 v1 rfl rfl)
  obtain ⟨a2, n2, c2, rfl⟩ := okWide_slice Tryd.underlying26 (hval 2 26 v2 rfl rfl)
  obtain ⟨l0, x0, b0⟩ := arg_glyphs (E := env gT) h0 rfl
  obtain ⟨l1, x1, b1⟩ := arg_glyphs (E := env gT) h1 rfl
  obtain ⟨l2, x2, b2⟩ := arg_glyphs (E := env gT) h2 rfl
  obtain ⟨ps, ⟨g1, t1, cs1, fu1, pp1, q1, e11, e12, e13, e14, ⟨g2, t2, cs2, fu2, pp2, q2, e21, e22, e23, e24, ⟨g3, t3, cs3, fu3, pp3, q3, e31, e32, e33, e34, _, _⟩, _⟩, _⟩, _⟩ := (show laidMet Tryd.prog Rows.stylesJoinsUptoRow.laid W from hL)
  obtain rfl := Option.some.inj (gGap.symm.trans e31)
  obtain rfl := Option.some.inj (gGapT.symm.trans e32)
  have hI := gap_inv e33 (cells_glyph e34)
  refine (law_calls gT_ok (joins_ok 0 0 0 l0 l1 l2 (by omega) .fresh) (vs := [_, _, _]) hI rfl (fun i d hi => ?_)).mono ?_
  · match i with
    | 0 => simp at hi; subst hi; exact x0
    | 1 => simp at hi; subst hi; exact x1
    | 2 => simp at hi; subst hi; exact x2
    | i + 3 => simp at hi
  · rintro e W' ⟨rfl, hB⟩
    exact ⟨_, rfl, law_post laidOut hW' rfl rfl rfl Tryd.underlying4 (by kernel_rfl) hB⟩
end Go.Proofs.YtgilkaonmhlifaaDoor.Dn
