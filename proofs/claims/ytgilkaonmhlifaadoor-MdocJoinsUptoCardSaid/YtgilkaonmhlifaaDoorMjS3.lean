/- flonglaw06.StylesJoins answers true. -/
import Derived.Test.YtgilkaonmhlifaaDoorMjS2
namespace Go.Proofs.YtgilkaonmhlifaaDoor.Dn
open Go.Den
set_option maxRecDepth 100000
set_option maxHeartbeats 4000000

/-- The variables that the rows of chapter 06 and 11 lay. -/
def gT : Nat → Option (List D)
  | 0 => some gapD
  | _ => none

theorem known14F : (F (env gT) (drawRun (env gT)) 60 14 [] .fresh).map (·.1) = some (.v (.bool true)) := by kernel_rfl
theorem known_of {E : Env} {f : FuncId} {n : Nat} (h : (F E (drawRun E) n f [] .fresh).map (·.1) = some (.v (.bool true))) (t : TypeId) (c : CS) : callD E (FW E) .pure t f [] c = some (.v (.bool true), c) := by
  obtain ⟨r, hr, h2⟩ := Option.map_eq_some_iff.1 h
  obtain ⟨d, c'⟩ := r
  obtain rfl : d = .v (.bool true) := h2
  exact (Pu.of (nargs := []) rfl (FW_iff.2 ⟨n, hr⟩) out_v).call
theorem call14 (t : TypeId) (c : CS) : callD (env gT) (FW (env gT)) .pure t 14 [] c = some (.v (.bool true), c) := known_of known14F t c

theorem joins_ok (k1 k2 k3 : Nat) (a b d : List (Int × Int)) (hb : a.length + b.length + d.length ≤ 2 ^ 30) (c : CS) :
    FW (env gT) 4 [.sl k1 2 (em gD a), .sl k2 2 (em gD b), .sl k3 2 (em gD d)] c = some (.v (.bool true), c) := by
  refine FW_Wd [] or4 ef4' rfl (by decide) pl4 ?_
  have hw1 : IntKind.i64.wrap ((a.length : Int) + (b.length : Int)) = (a.length : Int) + b.length := i64_of _ (by omega) (by omega)
  have hw2 : IntKind.i64.wrap ((a.length : Int) + (b.length : Int) + d.length) = (a.length : Int) + b.length + d.length := i64_of _ (by omega) (by omega)
  by_cases h5 : (500 : Int) < (a.length : Int) + b.length + d.length
  · simp -implicitDefEqProofs (maxSteps := 10000000) [List.range, List.range.loop, keep_dense, Tryd.f4, hw1, hw2, h5, call14]
  · have hw3 : IntKind.i64.wrap ((a.length : Int) + (b.length : Int) + 1) = (a.length : Int) + b.length + 1 := i64_of _ (by omega) (by omega)
    have l1 := join_length a b
    have l2 := join_length b d
    have l3 : (join a b).length ≤ 501 := by rw [l1]; split <;> omega
    have l4 : (join b d).length ≤ 501 := by rw [l2]; split <;> omega
    have l5 : (join (join a b) d).length ≤ 1002 := by rw [join_length]; split <;> omega
    have n1 : join ([] : List (Int × Int)) a = a := by simp [join]
    have n2 : join a ([] : List (Int × Int)) = a := by by_cases h : a = [] <;> simp [join, h]
    have j1 := fun k k' => call20 (G := gT) rfl k k' a b (by omega) 26 c
    have j2 := fun k k' => call20 (G := gT) rfl k k' (join a b) d (by omega) 26 c
    have j3 := fun k k' => call20 (G := gT) rfl k k' b d (by omega) 26 c
    have j4 := fun k k' => call20 (G := gT) rfl k k' a (join b d) (by omega) 26 c
    have j5 := fun k k' => call20 (G := gT) rfl k k' [] a (by simp; omega) 26 c
    have j6 := fun k k' => call20 (G := gT) rfl k k' a [] (by simp; omega) 26 c
    have s1 := fun k k' => call16 (G := gT) k k' (join (join a b) d) (join a (join b d)) (by omega) 4 c
    have s2 := fun k k' => call16 (G := gT) k k' a a (by omega) 4 c
    simp only [em_nil, gL, n1, n2] at j1 j2 j3 j4 j5 j6
    have e : (join (join a b) d == join a (join b d)) = true := by simp [join_assoc]
    rw [e] at s1
    have e2 : (a == a) = true := by simp
    rw [e2] at s2
    have hlen : ((join a b).length : Int) = (a.length : Int) + b.length + (if a ≠ [] ∧ b ≠ [] then 1 else 0) := by rw [l1]; split <;> simp
    rcases List.eq_nil_or_concat a with ha | ⟨a', x, ha⟩
    · have ha0 : a.length = 0 := by simp [ha]
      have hn : ¬ (0 < a.length) := by omega
      have hl : ((join a b).length : Int) = (a.length : Int) + b.length := by rw [hlen]; simp [ha]
      simp -implicitDefEqProofs (maxSteps := 10000000) [List.range, List.range.loop, keep_dense, Tryd.f4, hw1, hw2, h5, gL, j1, j2, j3, j4, j5, j6, s1, s2, call14, wantD, hn, hl]
    · have hp : 0 < a.length := by simp [ha]
      have hane : a ≠ [] := by simp [ha]
      by_cases hb0 : b = []
      · have hb1 : ¬ (0 < b.length) := by simp [hb0]
        have hl : ((join a b).length : Int) = (a.length : Int) + b.length := by rw [hlen]; simp [hb0]
        simp -implicitDefEqProofs (maxSteps := 10000000) [List.range, List.range.loop, keep_dense, Tryd.f4, hw1, hw2, h5, gL, j1, j2, j3, j4, j5, j6, s1, s2, call14, wantD, hp, hb1, hl]
      · have hb1 : 0 < b.length := List.length_pos_iff.2 hb0
        have hl : ((join a b).length : Int) = (a.length : Int) + b.length + 1 := by rw [hlen]; simp [hb0, hane]
        simp -implicitDefEqProofs (maxSteps := 10000000) [List.range, List.range.loop, keep_dense, Tryd.f4, hw1, hw2, hw3, h5, gL, j1, j2, j3, j4, j5, j6, s1, s2, call14, wantD, hp, hb1, hl]
end Go.Proofs.YtgilkaonmhlifaaDoor.Dn
