/- known() of chapter 11: what Pieces, Join and Text answer to the chapter's first example. -/
import Derived.Test.YtgilkaonmhlifaaDoorMjM3
namespace Go.Proofs.YtgilkaonmhlifaaDoor.Dn
open Go.Den
set_option maxRecDepth 100000
set_option maxHeartbeats 8000000

/-- The variables that the rows of chapter 11 lay, and how far a short search goes (m: whatever it is). -/
def gM (m : Int) : Nat → Option (List D)
  | 0 => some gapD
  | 4 => some [.v (.int .i64 m)]
  | _ => none

theorem pu_of {E : Env} {f : FuncId} {n : Nat} {args : List D} {d : D} (hn : args.map D.norm = args) (h : ((F E (drawRun E) n f args .fresh).bind fun p => p.2.out E p.1).map unmark = some d) : Pu E f args d := by
  obtain ⟨r, hr, h2⟩ := Option.map_eq_some_iff.1 h
  obtain ⟨⟨d', c'⟩, h3, h4⟩ := Option.bind_eq_some_iff.1 hr
  exact Pu.of hn (FW_iff.2 ⟨n, h3⟩) ⟨r, h4, h2⟩

/-- The example's words. -/
def wordsL : List D := [.v (.string ⟨#[79, 112]⟩), .v (.string ⟨#[70, 108]⟩), .v (.string ⟨#[97]⟩), .v (.string ⟨#[65, 114]⟩), .v (.string ⟨#[120]⟩), .v (.string ⟨#[44]⟩)]
/-- Its pieces. -/
def pcL : List Pc := [([(91, 0)], false, true), ([(45, 1), (97, 1)], false, false), ([(120, 2)], false, false), ([(44, 0)], true, false), ([(93, 0)], true, false)]
def pcsD : List D := em pD pcL
def txtD : List D := em gD [(91, 0), (45, 1), (97, 1), (32, 0), (120, 2), (44, 0), (93, 0)]

theorem pieces_pu (m : Int) : Pu (env (gM m)) 29 [.v (.string ⟨#[]⟩), .sl 0 1 wordsL] (.tup [.sl 0 3 pcsD, .v (.string ⟨#[]⟩), .sl 0 3 []]) :=
  pu_of (n := 60) rfl (by kernel_rfl)
theorem call29 (m : Int) (k : Nat) (t : TypeId) (c : CS) : callD (env (gM m)) (FW (env (gM m))) .pure t 29 [.v (.string ⟨#[]⟩), .sl k 1 wordsL] c = some (.tup [.sl 0 3 pcsD, .v (.string ⟨#[]⟩), .sl 0 3 []], c) :=
  (show Pu (env (gM m)) 29 [.v (.string ⟨#[]⟩), .sl k 1 wordsL] _ from pieces_pu m).call
theorem text_pu (m : Int) : Pu (env (gM m)) 30 [.sl 0 2 txtD] (.v (.string ⟨#[91, 45, 97, 32, 120, 44, 93]⟩)) := pu_of (n := 60) rfl (by kernel_rfl)
theorem call30 (m : Int) (t : TypeId) (c : CS) : callD (env (gM m)) (FW (env (gM m))) .pure t 30 [.sl 0 2 txtD] c = some (.v (.string ⟨#[91, 45, 97, 32, 120, 44, 93]⟩), c) := (text_pu m).call
theorem callable_pu (m : Int) : Pu (env (gM m)) 64 [.v (.string ⟨#[79, 112]⟩)] (.v (.bool true)) := pu_of (n := 60) rfl (by kernel_rfl)
theorem call64 (m : Int) (t : TypeId) (c : CS) : callD (env (gM m)) (FW (env (gM m))) .pure t 64 [.v (.string ⟨#[79, 112]⟩)] c = some (.v (.bool true), c) := (callable_pu m).call
theorem join_pcL : (jAll pcL).1 = [(91, 0), (45, 1), (97, 1), (32, 0), (120, 2), (44, 0), (93, 0)] := by decide +kernel
theorem call27k (m : Int) (k : Nat) (t : TypeId) (c : CS) : callD (env (gM m)) (FW (env (gM m))) .pure t 27 [.sl k 3 pcsD] c = some (.sl 0 2 txtD, c) := by
  have h := call27 (G := gM m) pcL (by decide) (by decide) k t c
  rw [join_pcL] at h
  exact h

theorem known26F (m : Int) : ∃ d c', FW (env (gM m)) 26 [] .fresh = some (d, c') ∧ d = .v (.bool true) := by
  have h29 := fun k => call29 m k
  simp only [wordsL] at h29
  refine FW_Pd [] or26 ef26' rfl (by decide) pl26 ?_
  simp -implicitDefEqProofs (maxSteps := 10000000) [List.range, List.range.loop, keep_dense, Tryd.f26, h29, call30 m, call64 m, call27k m, strOp, wantD]
theorem known26 (m : Int) : Known26 (gM m) := fun t c => by
  obtain ⟨d, c', h, rfl⟩ := known26F m
  exact (Pu.of (nargs := []) rfl h out_v).call
end Go.Proofs.YtgilkaonmhlifaaDoor.Dn
