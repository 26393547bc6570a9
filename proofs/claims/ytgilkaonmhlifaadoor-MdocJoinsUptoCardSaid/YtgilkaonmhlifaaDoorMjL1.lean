/- styles.Turn, flongref06.Turn, flongref03.Join, runes.Control, escape's say. -/
import Derived.Test.YtgilkaonmhlifaaDoorMjS3
namespace Go.Proofs.YtgilkaonmhlifaaDoor.Dn
open Go.Den
set_option maxRecDepth 100000
set_option maxHeartbeats 4000000
variable {G : Nat → Option (List D)}

/-- A face. -/
def fD (f : Int × Int) : D := .agg [.v (.int .u8 f.1), .v (.int .u8 f.2)]
@[simp] theorem cells_fD (p : Int × Int) : (fD p).cells = [.v (.int .u8 p.1), .v (.int .u8 p.2)] := rfl
@[simp] theorem norm_fD (p : Int × Int) : (fD p).norm = fD p := by simp [fD, D.norm, D.normL]
def turn (f : Int × Int) (n : Int) : Int × Int := if n = 4 then (f.2, f.1) else if n = 0 ∨ n = 1 ∨ n = 2 ∨ n = 3 then (n, f.1) else f

theorem app35 {k : Nat} {l xs : List D} {c : CS} (h : App c k l.length) (hr : (l.length + xs.length) * 9 ≤ maxRoom) (ho : okL xs = true) :
    appendD (env G) 35 (.sl k 2 l) xs c = some (.sl (appK c k) 2 (l ++ xs), appC c k (l.length + xs.length)) := app_of ty35 (by decide) h hr ho
theorem app103 {k : Nat} {l xs : List D} {c : CS} (h : App c k l.length) (hr : (l.length + xs.length) * 17 ≤ maxRoom) (ho : okL xs = true) :
    appendD (env G) 103 (.sl k 2 l) xs c = some (.sl (appK c k) 2 (l ++ xs), appC c k (l.length + xs.length)) := app_of ty103 (by decide) h hr ho
theorem app21 {k : Nat} {l xs : List D} {c : CS} (h : App c k l.length) (hr : (l.length + xs.length) * 5 ≤ maxRoom) (ho : okL xs = true) :
    appendD (env G) 21 (.sl k 1 l) xs c = some (.sl (appK c k) 1 (l ++ xs), appC c k (l.length + xs.length)) := app_of ty21 (by decide) h hr ho

theorem u8_of (n : Int) (h0 : 0 ≤ n) (h : n < 256) : IntKind.u8.wrap n = n := by rw [IntKind.wrap_u8]; omega
theorem turn_ok (f : Int × Int) (n : Int) : ∃ d c', FW (env G) 56 [fD f, .v (.int .i32 n)] .fresh = some (d, c') ∧ d = fD (turn f n) := by
  refine FW_Pd [] or56 ef56' rfl (by decide) pl56 ?_
  have w0 := u8_of 0 (by decide) (by decide)
  have w1 := u8_of 1 (by decide) (by decide)
  have w2 := u8_of 2 (by decide) (by decide)
  have w3 := u8_of 3 (by decide) (by decide)
  by_cases h4 : n = 4
  · subst h4
    simp -implicitDefEqProofs (maxSteps := 10000000) [List.range, List.range.loop, keep_dense, Tryd.f56, fD, turn]
  · by_cases h0 : n = 0
    · subst h0; simp -implicitDefEqProofs (maxSteps := 10000000) [List.range, List.range.loop, keep_dense, Tryd.f56, fD, turn, w0]
    · by_cases h1 : n = 1
      · subst h1; simp -implicitDefEqProofs (maxSteps := 10000000) [List.range, List.range.loop, keep_dense, Tryd.f56, fD, turn, w1]
      · by_cases h2 : n = 2
        · subst h2; simp -implicitDefEqProofs (maxSteps := 10000000) [List.range, List.range.loop, keep_dense, Tryd.f56, fD, turn, w2]
        · by_cases h3 : n = 3
          · subst h3; simp -implicitDefEqProofs (maxSteps := 10000000) [List.range, List.range.loop, keep_dense, Tryd.f56, fD, turn, w3]
          · simp -implicitDefEqProofs (maxSteps := 10000000) [List.range, List.range.loop, keep_dense, Tryd.f56, fD, turn, h4, h0, h1, h2, h3]
theorem call56 (f : Int × Int) (n : Int) (t : TypeId) (c : CS) : callD (env G) (FW (env G)) .pure t 56 [fD f, .v (.int .i32 n)] c = some (fD (turn f n), c) := by
  obtain ⟨d, c', h, rfl⟩ := turn_ok (G := G) f n
  exact (Pu.of (by simp [D.norm]) h ⟨_, rfl, rfl⟩).call

theorem turn9_ok (f : Int × Int) : ∃ d c', FW (env G) 19 [fD f, .v (.int .i32 9)] .fresh = some (d, c') ∧ d = fD f := by
  refine FW_Pd [] or19 ef19' rfl (by decide) pl19 ?_
  simp -implicitDefEqProofs (maxSteps := 10000000) [List.range, List.range.loop, keep_dense, Tryd.f19, fD, wantD]
theorem call19 (f : Int × Int) (t : TypeId) (c : CS) : callD (env G) (FW (env G)) .pure t 19 [fD f, .v (.int .i32 9)] c = some (fD f, c) := by
  obtain ⟨d, c', h, rfl⟩ := turn9_ok (G := G) f
  exact (Pu.of (by simp [D.norm]) h ⟨_, rfl, rfl⟩).call

theorem cat_ok (a b : List (Int × Int)) (h : a.length + b.length ≤ 2 ^ 30) : ∃ d c', FW (env G) 17 [gL a, gL b] .fresh = some (d, c') ∧ ∃ k, d = .sl k 2 (em gD (a ++ b)) := by
  refine FW_Pd [] or17 ef17' rfl (by decide) pl17 ?_
  have r1 : a.length * 9 ≤ maxRoom := by unfold maxRoom; omega
  have r2 : (a.length + b.length) * 9 ≤ maxRoom := by unfold maxRoom; omega
  have hA : App (appC .fresh 1 a.length) 2 a.length := App.fresh (n := 0) |>.self
  simp -implicitDefEqProofs (maxSteps := 10000000) [List.range, List.range.loop, keep_dense, Tryd.f17, gL, app35, r1, r2, hA]
theorem call17 (k k' : Nat) (a b : List (Int × Int)) (h : a.length + b.length ≤ 2 ^ 30) (t : TypeId) (c : CS) : callD (env G) (FW (env G)) .pure t 17 [.sl k 2 (em gD a), .sl k' 2 (em gD b)] c = some (gL (a ++ b), c) := by
  obtain ⟨d, c', h, q, rfl⟩ := cat_ok (G := G) a b h
  exact (Pu.of (by simp [D.norm, gL]) h (out_slU (by simp))).call
end Go.Proofs.YtgilkaonmhlifaaDoor.Dn
