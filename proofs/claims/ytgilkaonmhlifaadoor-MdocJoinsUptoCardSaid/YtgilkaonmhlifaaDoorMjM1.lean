/- mdoc.Join. -/
import Derived.Test.YtgilkaonmhlifaaDoorMjL1
namespace Go.Proofs.YtgilkaonmhlifaaDoor.Dn
open Go.Den
set_option maxRecDepth 100000
set_option maxHeartbeats 4000000
variable {G : Nat → Option (List D)}

/-- A piece: its text; does it stick to what is ahead of it, behind it? -/
abbrev Pc := List (Int × Int) × Bool × Bool
def pD (p : Pc) : D := .agg [gL p.1, .v (.bool p.2.1), .v (.bool p.2.2)]
@[simp] theorem cells_pD (p : Pc) : (pD p).cells = [gL p.1, .v (.bool p.2.1), .v (.bool p.2.2)] := rfl
@[simp] theorem norm_gL (l : List (Int × Int)) : (gL l).norm = gL l := by simp [gL, D.norm]
@[simp] theorem norm_pD (p : Pc) : (pD p).norm = pD p := by simp [pD, D.norm, D.normL]
@[simp] theorem cellB_gL (l : List (Int × Int)) : (gL l).cellB = true := rfl
@[simp] theorem okL_pD (l : List Pc) : okL (em pD l) = true := em_okL (fun p => by simp) l
@[simp] theorem normL_pD (l : List Pc) : D.normL (em pD l) = em pD l := em_norm norm_pD l

def jStep (s : List (Int × Int) × Bool) (p : Pc) : List (Int × Int) × Bool :=
  if p.1 = [] then s else (s.1 ++ (if s.2 = false ∧ p.2.1 = false then [(32, 0)] else []) ++ p.1, p.2.2)
def jAll (l : List Pc) : List (Int × Int) × Bool := l.foldl jStep ([], true)
theorem jAll_take (l : List Pc) (i : Nat) (h : i < l.length) : jAll (l.take (i + 1)) = jStep (jAll (l.take i)) l[i] := by
  unfold jAll
  rw [List.take_add_one, List.getElem?_eq_getElem h, List.foldl_append]; rfl
def pTot (l : List Pc) : Nat := (l.map fun p => 1 + p.1.length).sum
theorem pTot_take (l : List Pc) (i : Nat) (h : i < l.length) : pTot (l.take (i + 1)) = pTot (l.take i) + 1 + l[i].1.length := by
  unfold pTot
  rw [List.take_add_one, List.getElem?_eq_getElem h, List.map_append, List.sum_append]
  simp only [Option.toList_some, List.map_cons, List.map_nil, List.sum_cons, List.sum_nil]
  omega
theorem pTot_le (l : List Pc) (i : Nat) : pTot (l.take i) ≤ pTot l := by
  have : pTot l = pTot (l.take i) + pTot (l.drop i) := by
    unfold pTot; rw [← List.sum_append, ← List.map_append, List.take_append_drop]
  omega
theorem jAll_len (l : List Pc) (i : Nat) : (jAll (l.take i)).1.length ≤ pTot (l.take i) := by
  induction i with
  | zero => simp [jAll]
  | succ i ih =>
    by_cases h : i < l.length
    · rw [jAll_take l i h, pTot_take l i h]
      unfold jStep
      split
      · omega
      · simp only [List.length_append]
        split <;> simp <;> omega
    · rw [List.take_of_length_le (by omega)]
      rw [List.take_of_length_le (by omega)] at ih
      exact ih

def mj_st (l : List Pc) (k : Nat) (out : List (Int × Int)) (b : Bool) (i : Nat) (c : CS) : St := ⟨(dense 36 [(3, .sl k 2 (em gD out)), (4, .v (.bool b)), (7, .sl 0 3 (em pD l)), (8, .v (.int .i64 l.length)), (9, .v (.int .i64 i))]), c⟩
theorem mj_loop (l : List Pc) (hl : pTot l ≤ 2 ^ 20) (hl2 : l.length ≤ 2 ^ 20) (s : St) (c : CS) (hA : App c 1 0) (hs : s.keep fi27 4 = mj_st l 1 [] true 0 c) :
    ∃ ex s', loopW (env G) fi27 (loopAt [9] Tryd.f27 0) s = some (ex, s') ∧ (ex = .exit 0 ∧ isD 36 s'.sl ∧ ∃ k, s'.sl.getD 3 .dead = .sl k 2 (em gD (jAll l).1)) := by
  refine loop_rule (R := fun ex s' => ex = .exit 0 ∧ isD 36 s'.sl ∧ ∃ k, s'.sl.getD 3 .dead = .sl k 2 (em gD (jAll l).1))
    (fun n s => ∃ i k c, i + n = l.length ∧ App c k (jAll (l.take i)).1.length ∧ s.keep fi27 4 = mj_st l k (jAll (l.take i)).1 (jAll (l.take i)).2 i c) ?_ l.length s ⟨0, 1, c, by omega, hA, hs⟩
  rintro n s ⟨i, k, c, hi, hA, hs⟩
  by_cases hlt : i < l.length
  · have hst := jAll_take l i hlt
    have hle := jAll_len l i
    have hle2 := jAll_len l (i + 1)
    have hle3 := pTot_le l (i + 1)
    have hpt := pTot_take l i hlt
    have hw2 : IntKind.i64.wrap ((i : Int) + 1) = (i + 1 : Nat) := by rw [i64_of _ (by omega) (by omega)]; simp
    generalize hS : jAll (l.take i) = S at *
    obtain ⟨out, b⟩ := S
    generalize hP : l[i] = P at *
    obtain ⟨tx, lf, rt⟩ := P
    simp only at hA hs hle hle2 hpt
    by_cases htx : tx = []
    · subst htx
      simp -implicitDefEqProofs (maxSteps := 10000000) [List.range, List.range.loop, keep_dense, dr27_9, drawT, stAt, anAt, Stable, Tryd.f27, hs, mj_st, hlt, hP, gL, hw2]
      refine ⟨n - 1, by omega, i + 1, by omega, ?_⟩
      rw [hst]; simp [jStep]
      exact ⟨k, hA.new, rfl⟩
    · have hne : ¬ ((tx.length : Nat) : Int) = 0 := by have := List.length_pos_iff.2 htx; omega
      have hne2 : (((tx.length : Nat) : Int) == 0) = false := by simpa using hne
      have r0 : (out.length + tx.length) * 9 ≤ maxRoom := by unfold maxRoom; omega
      have r1 : (out.length + 1) * 9 ≤ maxRoom := by unfold maxRoom; omega
      have r2 : (out.length + 1 + tx.length) * 9 ≤ maxRoom := by unfold maxRoom; omega
      by_cases hb : b = true
      · subst hb
        simp -implicitDefEqProofs (maxSteps := 10000000) [List.range, List.range.loop, keep_dense, dr27_9, drawT, stAt, anAt, Stable, Tryd.f27, hs, mj_st, hlt, hP, gL, htx, hw2, wantD, app35, hA, r0]
        refine ⟨n - 1, by omega, i + 1, by omega, ?_⟩
        rw [hst]; simp [jStep, htx]
        exact ⟨_, App.self (n := out.length) (by simpa using hA.new), rfl⟩
      · obtain rfl : b = false := by simpa using hb
        by_cases hlf : lf = true
        · subst hlf
          simp -implicitDefEqProofs (maxSteps := 10000000) [List.range, List.range.loop, keep_dense, dr27_9, drawT, stAt, anAt, Stable, Tryd.f27, hs, mj_st, hlt, hP, gL, htx, hw2, wantD, app35, hA, r0]
          refine ⟨n - 1, by omega, i + 1, by omega, ?_⟩
          rw [hst]; simp [jStep, htx]
          exact ⟨_, App.self (n := out.length) (by simpa using hA.new), rfl⟩
        · obtain rfl : lf = false := by simpa using hlf
          have hA2 : ∀ o o' : Den.Obj, App (appC ((c.new o).put c.nx o') k (out.length + 1)) (appK ((c.new o).put c.nx o') k) (out.length + 1) := fun o o' => App.self (n := out.length) (by simpa using hA.new)
          simp -implicitDefEqProofs (maxSteps := 10000000) [List.range, List.range.loop, keep_dense, dr27_9, drawT, stAt, anAt, Stable, Tryd.f27, hs, mj_st, hlt, hP, gL, htx, hw2, wantD, app35, hA, r1, r2, hA2]
          refine ⟨n - 1, by omega, i + 1, by omega, ?_⟩
          rw [hst]; simp [jStep, htx]
          rw [show out.length + (tx.length + 1) = out.length + 1 + tx.length by omega]
          exact ⟨_, (hA2 _ _).self, rfl⟩
  · obtain rfl : i = l.length := by omega
    rw [List.take_length] at hA hs
    simp -implicitDefEqProofs (maxSteps := 10000000) [List.range, List.range.loop, keep_dense, dr27_9, drawT, stAt, anAt, Stable, Tryd.f27, hs, mj_st]

theorem mjoin_ok (l : List Pc) (hl : pTot l ≤ 2 ^ 20) (hl2 : l.length ≤ 2 ^ 20) : ∃ d c', FW (env G) 27 [.sl 0 3 (em pD l)] .fresh = some (d, c') ∧ ∃ k, d = .sl k 2 (em gD (jAll l).1) := by
  refine FW_Pd [9] or27 ef27' rfl (by decide) pl27 ?_
  simp -implicitDefEqProofs (maxSteps := 10000000) [List.range, List.range.loop, keep_dense, dr27_9, drawT, stAt, anAt, Stable, Tryd.f27]
  refine W_loop (mj_loop l hl hl2 _ CS.fresh App.fresh ?_) ?_ ?_
  · simp -implicitDefEqProofs (maxSteps := 10000000) [List.range, List.range.loop, keep_dense, mj_st]
  · simp -implicitDefEqProofs (maxSteps := 10000000) [List.range, List.range.loop, keep_dense, dr27_9, drawT, stAt, anAt, Stable, Tryd.f27]
  · rintro ex ⟨sl, cs⟩ ⟨rfl, ⟨q, rfl⟩, k, h3⟩
    rw [dense_getD _ _ _ (by decide)] at h3
    simp -implicitDefEqProofs (maxSteps := 10000000) [List.range, List.range.loop, keep_dense, h3]
theorem call27 (l : List Pc) (hl : pTot l ≤ 2 ^ 20) (hl2 : l.length ≤ 2 ^ 20) (k : Nat) (t : TypeId) (c : CS) : callD (env G) (FW (env G)) .pure t 27 [.sl k 3 (em pD l)] c = some (gL (jAll l).1, c) := by
  obtain ⟨d, c', h, q, rfl⟩ := mjoin_ok (G := G) l hl hl2
  exact (Pu.of (by simp [D.norm]) h (out_slU (by simp))).call
end Go.Proofs.YtgilkaonmhlifaaDoor.Dn
