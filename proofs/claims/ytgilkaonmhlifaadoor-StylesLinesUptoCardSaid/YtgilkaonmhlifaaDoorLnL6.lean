/- StylesLines: the witness's world, and the card. -/
import Derived.Test.YtgilkaonmhlifaaDoorLnL5
namespace Go.Proofs.YtgilkaonmhlifaaDoor.Dn
open Go.Den Go.ChangeShapes Go.WideShapes Go.RowKit Go.ChangeAt
set_option maxRecDepth 100000

theorem lines_laid (os : Os) (args : Array Value) : laidMetH Tryd.prog Rows.stylesLinesUptoRow.laid ((World.doorLaid Tryd.prog 400 os).forCall (fun _ _ => 0) ⟨#[], args, []⟩).memory :=
  laidMet_of_run' 8 (by kernel_rfl) (by kernel_rfl)
theorem door_vars (os : Os) (args : Array Value) : ((World.doorLaid Tryd.prog 400 os).forCall (fun _ _ => 0) ⟨#[], args, []⟩).variablesRefB Tryd.prog = true := by kernel_rfl
theorem door_rest (os : Os) (args : Array Value) : ((((World.doorLaid Tryd.prog 400 os).forCall (fun _ _ => 0) ⟨#[], args, []⟩).heap.toList.drop Tryd.prog.globals.size).take ((begin Tryd.prog (fun _ _ => 0) default).world.heap.size - Tryd.prog.globals.size)) =
      (begin Tryd.prog (fun _ _ => 0) default).world.heap.toList.drop Tryd.prog.globals.size := by kernel_rfl

theorem lines_lifted (os : Os) (started : os.Started) (H : Type) (enc : TypeId × Value → H) (F : Stop.Interp) :
    ReturnsInHanded {} Tryd.checked os 3 .any ((Rows.OpenSpec.upto Rows.stylesLinesSpec).preRow enc Tryd.prog Tryd.f3 Rows.stylesLinesUptoRow.domain false Rows.stylesLinesUptoRow.laid) (((Rows.OpenSpec.upto Rows.stylesLinesSpec).at F).post enc Tryd.prog Tryd.f3 false true false false) := by
  have hx : ∃ places, DataW.whole enc Tryd.prog ((World.doorLaid Tryd.prog 400 os).forCall (fun _ _ => 0) ⟨#[], #[.agg #[.int .u8 0, .int .u8 0], .slice none 0 0, .slice none 0 0, .string ⟨#[]⟩], []⟩).memory Tryd.f3.params.toList Rows.stylesLinesSpec.vars false #[Value.agg #[.int .u8 0, .int .u8 0], .slice none 0 0, .slice none 0 0, .string ⟨#[]⟩].toList 8 = some ([.agg [.lit (.int .u8 0), .lit (.int .u8 0)], .nil, .nil, .lit (.string [])], [], places) := ⟨[], by kernel_rfl⟩
  obtain ⟨places, hx⟩ := hx
  refine returnsInHanded_of_row (C := Tryd.checked) (s := Rows.OpenSpec.upto Rows.stylesLinesSpec) own started (by kernel_rfl) Tryd.func3
    (witness_row_atRef (enc := enc) (C := Tryd.checked) false (World.doorLaid Tryd.prog 400 os) #[.agg #[.int .u8 0, .int .u8 0], .slice none 0 0, .slice none 0 0, .string ⟨#[]⟩] rfl (door_vars os _) (door_rest os _) (by kernel_rfl)
      (OpenSpec.preRow_of_cond 8 hx (by kernel_rfl) (fun k hk => by cases hk; kernel_rfl) (by kernel_rfl) (lines_laid os _))) ?_
  intro W base args ds gs before hval hW _ hcond _ hL _ _
  exact lines_contract H enc W base args ds gs before hval hW (hcond _ rfl) hL

theorem lines_said : Rows.StylesLinesUptoSaid :=
  OpenClaim.holds_of_cond 3 Tryd.f3 rfl rfl rfl rfl rfl rfl rfl ⟨rfl, rfl, rfl, rfl, rfl⟩ rfl rfl rfl rfl rfl (by kernel_rfl) Tryd.func3 (by kernel_rfl)
    (of_decide_eq_true (by kernel_rfl)) (by unfold Func.isWrapper; first | (rw [if_pos (by decide +kernel)]; kernel_rfl) | (rw [if_neg (by decide +kernel)]; exact ⟨rfl, rfl⟩))
    (fun os started H enc _ F => by rw [OpenClaim.pre_eq_preRow]; exact lines_lifted os started H enc F)

theorem lines_plain (f : FuncId) (fn : Func) (hf : Tryd.pinned.checked.prog.funcNamed "flong/flonglaw06.StylesLines" = some f) (hfn : Tryd.pinned.checked.prog.funcs[f]? = some fn) :
    false = Tryd.pinned.checked.prog.looks [] ∧ ∀ (j : Nat) t, fn.params[j]? = some t → Tryd.pinned.checked.prog.wantsStandIn t = false := by
  obtain rfl : f = 3 := Option.some.inj ((show Tryd.prog.funcNamed "flong/flonglaw06.StylesLines" = some 3 by kernel_rfl).symm.trans hf) |>.symm
  obtain rfl : fn = Tryd.f3 := (Option.some.inj (Tryd.func3.symm.trans hfn)).symm
  refine ⟨by kernel_rfl, fun j t ht => ?_⟩
  rw [Tryd.params3] at ht
  have hm : t ∈ [23, 24, 24, 9] := by simpa using Array.mem_of_getElem? ht
  have hall : ([23, 24, 24, 9].all fun u => !Tryd.prog.wantsStandIn u) = true := by kernel_rfl
  exact (show Tryd.prog.wantsStandIn t = false by simpa using List.all_eq_true.1 hall t hm)

/-- The card. -/
theorem lines_card : Rows.StylesLinesUptoCardSaid :=
  Claim7.holds_tied_plain_at .later [] _ _ _ _ lines_said (fun _ h => by cases h) (by kernel_rfl) (fun _ h => by cases h) stylesLinesUpto_row_tie rfl ⟨rfl, rfl⟩ (by kernel_rfl) rfl lines_plain (by kernel_rfl)
end Go.Proofs.YtgilkaonmhlifaaDoor.Dn
