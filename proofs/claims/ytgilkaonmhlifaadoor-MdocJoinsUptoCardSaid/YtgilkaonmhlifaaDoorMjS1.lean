/- A part of the proof. -/
import Derived.Test.YtgilkaonmhlifaaDoorMjDenF
import Derived.Test.YtgilkaonmhlifaaDoorMjDenB
namespace Go.Proofs.YtgilkaonmhlifaaDoor.Dn
open Go.Den
set_option maxRecDepth 100000
set_option maxHeartbeats 1000000
variable {G : Nat → Option (List D)}
def gD (p : Int × Int) : D := .agg [.v (.int .i32 p.1), .v (.int .u8 p.2)]
@[simp] theorem cells_gD (p : Int × Int) : (gD p).cells = [.v (.int .i32 p.1), .v (.int .u8 p.2)] := rfl
theorem i64_of (n : Int) (h0 : -(2 ^ 63) ≤ n) (h : n < 2 ^ 63) : IntKind.i64.wrap n = n := by rw [IntKind.wrap_i64]; omega
@[simp] theorem okL_gD (l : List (Int × Int)) : okL (em gD l) = true := em_okL (fun p => by simp [gD]) l
@[simp] theorem norm_gD (p : Int × Int) : (gD p).norm = gD p := by simp [gD, D.norm, D.normL]
@[simp] theorem normL_gD (l : List (Int × Int)) : D.normL (em gD l) = em gD l := em_norm norm_gD l
@[simp] theorem snoc_gD (a : List (Int × Int)) (r s : Int) : em gD a ++ [.agg [.v (.int .i32 r), .v (.int .u8 s)]] = em gD (a ++ [(r, s)]) := em_snoc a (r, s)
theorem wrap64 (n : Nat) (h : n < 2 ^ 63) : IntKind.i64.wrap (n : Int) = n := by rw [IntKind.wrap_i64]; omega
theorem wrap64s (n : Nat) (h : n < 2 ^ 62) : IntKind.i64.wrap ((n : Int) + 1) = ((n + 1 : Nat) : Int) := by rw [IntKind.wrap_i64]; omega
theorem eq35 : (env G).eqOk 35 = some [.int .i32, .int .u8] := by show eqB Tryd.prog 35 = _; kernel_rfl

def same_st (k k' : Nat) (l m : List (Int × Int)) (i : Nat) (c : CS) : St := ⟨(dense 26 [(0, .sl k 2 (em gD l)), (1, .sl k' 2 (em gD m)), (5, .v (.int .i64 i))]), c⟩
theorem same_loop (k k' : Nat) (l m : List (Int × Int)) (hl : l.length = m.length) (hb : l.length < 2 ^ 62) (c : CS) : ∀ (n i : Nat) (s : St), i + n = l.length → l.take i = m.take i → s.keep fi16 4 = same_st k k' l m i c →
    ∃ ex s', loopW (env G) fi16 (loopAt [] Tryd.f16 0) s = some (ex, s') ∧ (isD 26 s'.sl ∧ s'.cs = c ∧ if l = m then ex = .exit 0 else ex = .ret ∧ s'.sl.getD 4 .dead = .v (.bool false)) := by
  refine fun n i s h1 h2 h3 => loop_rule (R := fun ex s' => isD 26 s'.sl ∧ s'.cs = c ∧ if l = m then ex = .exit 0 else ex = .ret ∧ s'.sl.getD 4 .dead = .v (.bool false))
    (fun n s => ∃ i, i + n = l.length ∧ l.take i = m.take i ∧ s.keep fi16 4 = same_st k k' l m i c) ?_ n s ⟨i, h1, h2, h3⟩
  rintro n s ⟨i, hi, ht, hs⟩
  by_cases hlt : i < l.length
  · have hlt' : i < m.length := by omega
    by_cases hE : l[i] = m[i]
    · simp -implicitDefEqProofs (maxSteps := 10000000) [List.range, List.range.loop, keep_dense, Tryd.f16, hs, same_st, hlt, hlt', eqKinds, eq35, kindsB, cellsEq, hE]
      refine ⟨n - 1, by omega, i + 1, by omega, ?_, by rw [wrap64s i (by omega)]; try simp⟩
      rw [List.take_add_one, List.take_add_one, ht, List.getElem?_eq_getElem hlt, List.getElem?_eq_getElem hlt', hE]
    · have hne : l ≠ m := fun h => hE (by subst h; rfl)
      have hx : (!l[i].1 == m[i].1 || !l[i].2 == m[i].2) = true := by
        simp only [Bool.or_eq_true, Bool.not_eq_true', beq_eq_false_iff_ne, ne_eq]
        by_cases h1 : l[i].1 = m[i].1
        · right; exact fun h2 => hE (Prod.ext h1 h2)
        · left; exact h1
      simp -implicitDefEqProofs (maxSteps := 10000000) [List.range, List.range.loop, keep_dense, Tryd.f16, hs, same_st, hlt, hlt', eqKinds, eq35, kindsB, cellsEq, hx, hne]
  · have heq : l = m := by rw [List.take_of_length_le (by omega), List.take_of_length_le (by omega)] at ht; exact ht
    subst heq
    simp -implicitDefEqProofs (maxSteps := 10000000) [List.range, List.range.loop, keep_dense, Tryd.f16, hs, same_st, hlt]

theorem same_ok (k k' : Nat) (l m : List (Int × Int)) (hb : l.length < 2 ^ 62) (c : CS) : FW (env G) 16 [.sl k 2 (em gD l), .sl k' 2 (em gD m)] c = some (.v (.bool (l == m)), c) := by
  refine FW_Wd [] or16 ef16' rfl (by decide) pl16 ?_
  by_cases hl : l.length = m.length
  · simp -implicitDefEqProofs (maxSteps := 10000000) [List.range, List.range.loop, keep_dense, Tryd.f16, hl]
    refine W_loop (same_loop k k' l m hl hb c l.length 0 _ (by omega) (by simp) (by simp -implicitDefEqProofs (maxSteps := 10000000) [List.range, List.range.loop, keep_dense, same_st])) rfl ?_
    rintro ex ⟨sl, cs⟩ ⟨⟨q, rfl⟩, rfl, h2⟩
    rw [dense_getD _ _ _ (by decide)] at h2
    by_cases hlm : l = m
    · rw [if_pos hlm] at h2
      subst h2 hlm
      simp -implicitDefEqProofs (maxSteps := 10000000) [List.range, List.range.loop, keep_dense]
    · rw [if_neg hlm] at h2
      obtain ⟨rfl, h2⟩ := h2
      have hbe : (l == m) = false := by simpa using hlm
      simp -implicitDefEqProofs (maxSteps := 10000000) [List.range, List.range.loop, keep_dense, h2, hbe]
  · have hlm : ¬ l = m := fun h => hl (by rw [h])
    have hl' : ¬ (l.length : Int) = m.length := by omega
    simp -implicitDefEqProofs (maxSteps := 10000000) [List.range, List.range.loop, keep_dense, Tryd.f16, hl', hlm]
end Go.Proofs.YtgilkaonmhlifaaDoor.Dn
