/- slices.Grow, slices.Concat, styles.Join. -/
import Derived.Test.YtgilkaonmhlifaaDoorMjS1
import Derived.Test.YtgilkaonmhlifaaDoorMjDenB
namespace Go.Proofs.YtgilkaonmhlifaaDoor.Dn
open Go.Den
set_option maxRecDepth 100000
set_option maxHeartbeats 1000000
variable {G : Nat → Option (List D)}

/-- Glyphs as a value. -/
def gL (l : List (Int × Int)) : D := .sl 0 2 (em gD l)
@[simp] theorem cells_gL (l : List (Int × Int)) : (gL l).cells = [.sl 0 2 (em gD l)] := rfl

theorem grow_ok (n : Nat) (hn : n ≤ 2 ^ 30) (c : CS) (hc : 2 ≤ c.nx) : FW (env G) 100 [.sl 1 2 [], .v (.int .i64 n)] c = some (if n = 0 then .sl 1 2 [] else .sl c.nx 2 [], if n = 0 then c else { c with tk := upd c.tk c.nx (some 0), nx := c.nx + 1 }) := by
  refine FW_Wd [] or100 ef100' rfl (by decide) pl100 ?_
  have hlt : ¬ (n : Int) < 0 := by omega
  have hw : IntKind.i64.wrap (n : Int) = n := i64_of _ (by omega) (by omega)
  have hw0 : IntKind.i64.wrap 0 = 0 := i64_of _ (by omega) (by omega)
  by_cases h0 : n = 0
  · subst h0
    simp -implicitDefEqProofs (maxSteps := 10000000) [List.range, List.range.loop, keep_dense, Tryd.f100, hw0]
  · have hpos : 0 < n := by omega
    have hr : n * 9 ≤ maxRoom := by unfold maxRoom; omega
    simp -implicitDefEqProofs (maxSteps := 10000000) [List.range, List.range.loop, keep_dense, Tryd.f100, hw, hw0, hlt, hpos, h0, hr, hc]

def tot (ls : List (List (Int × Int))) : Nat := (ls.map List.length).sum
theorem tot_app (a b : List (List (Int × Int))) : tot (a ++ b) = tot a + tot b := by simp [tot]
theorem tot_flat (ls : List (List (Int × Int))) : ls.flatten.length = tot ls := by simp [tot, List.length_flatten]

def cat1 (ls : List (List (Int × Int))) (c : CS) (i : Nat) : St := ⟨(dense 36 [(0, .sl 0 1 (em gL ls)), (3, .v (.int .i64 (tot (ls.take i)))), (9, .sl 0 1 (em gL ls)), (10, .v (.int .i64 ls.length)), (11, .v (.int .i64 i))]), c⟩
theorem take_tot (ls : List (List (Int × Int))) (i : Nat) (h : i < ls.length) : tot (ls.take (i + 1)) = tot (ls.take i) + ls[i].length := by
  rw [List.take_add_one, List.getElem?_eq_getElem h, tot_app]; simp [tot]
theorem take_le (ls : List (List (Int × Int))) (i : Nat) : tot (ls.take i) ≤ tot ls := by
  have := tot_app (ls.take i) (ls.drop i)
  rw [List.take_append_drop] at this
  omega

/-- The first loop: how many there are. -/
theorem concat_loop1 (ls : List (List (Int × Int))) (hb : tot ls ≤ 2 ^ 30) (hb2 : ls.length ≤ 2 ^ 30) (c : CS) (s : St) (hs : s.keep fi59 3 = cat1 ls c 0) :
    ∃ ex s', loopW (env G) fi59 (loopAt [] Tryd.f59 0) s = some (ex, s') ∧ (ex = .exit 0 ∧ s' = (cat1 ls c ls.length).put (some 12) (.v (.bool false))) := by
  refine loop_rule (R := fun ex s' => ex = .exit 0 ∧ s' = (cat1 ls c ls.length).put (some 12) (.v (.bool false)))
    (fun n s => ∃ i, i + n = ls.length ∧ s.keep fi59 3 = cat1 ls c i) ?_ ls.length s ⟨0, by omega, hs⟩
  rintro n s ⟨i, hi, hs⟩
  have hle := take_le ls i
  by_cases hlt : i < ls.length
  · have ht := take_tot ls i hlt
    have hle' := take_le ls (i + 1)
    have hw1 : IntKind.i64.wrap ((tot (ls.take i) : Int) + (ls[i].length : Int)) = (tot (ls.take (i + 1)) : Nat) := by rw [ht, i64_of _ (by omega) (by omega)]; simp
    have hw2 : IntKind.i64.wrap ((i : Int) + 1) = (i + 1 : Nat) := by rw [i64_of _ (by omega) (by omega)]; simp
    have hnn : ¬ ((tot (ls.take (i + 1)) : Nat) : Int) < 0 := by omega
    simp -implicitDefEqProofs (maxSteps := 10000000) [List.range, List.range.loop, keep_dense, Tryd.f59, hs, cat1, hlt, gL, hw1, hw2, hnn]
    exact ⟨n - 1, by omega, i + 1, by omega, by simp⟩
  · obtain rfl : i = ls.length := by omega
    simp -implicitDefEqProofs (maxSteps := 10000000) [List.range, List.range.loop, keep_dense, Tryd.f59, hs, cat1]

def cat2 (ls : List (List (Int × Int))) (k : Nat) (c : CS) (i : Nat) : St := ⟨(dense 36 [(6, .sl k 2 (em gD (ls.take i).flatten)), (25, .sl 0 1 (em gL ls)), (26, .v (.int .i64 ls.length)), (27, .v (.int .i64 i))]), c⟩
theorem take_flat (ls : List (List (Int × Int))) (i : Nat) (h : i < ls.length) : (ls.take (i + 1)).flatten = (ls.take i).flatten ++ ls[i] := by
  rw [List.take_add_one, List.getElem?_eq_getElem h, List.flatten_append]; simp

/-- The second loop: one behind the other. -/
theorem concat_loop2 (ls : List (List (Int × Int))) (hb : tot ls ≤ 2 ^ 30) (hb2 : ls.length ≤ 2 ^ 30) (k : Nat) (c : CS) (hA : App c k 0) (s : St) (hs : s.keep fi59 11 = cat2 ls k c 0) :
    ∃ ex s', loopW (env G) fi59 (loopAt [] Tryd.f59 1) s = some (ex, s') ∧ (ex = .exit 2 ∧ ∃ k c, s' = (cat2 ls k c ls.length).put (some 28) (.v (.bool false))) := by
  refine loop_rule (R := fun ex s' => ex = .exit 2 ∧ ∃ k c, s' = (cat2 ls k c ls.length).put (some 28) (.v (.bool false)))
    (fun n s => ∃ i k c, i + n = ls.length ∧ App c k (tot (ls.take i)) ∧ s.keep fi59 11 = cat2 ls k c i) ?_ ls.length s ⟨0, k, c, by omega, hA, hs⟩
  rintro n s ⟨i, k, c, hi, hA, hs⟩
  have hle := take_le ls i
  by_cases hlt : i < ls.length
  · have ht := take_tot ls i hlt
    have hf := take_flat ls i hlt
    have hle' := take_le ls (i + 1)
    have hw2 : IntKind.i64.wrap ((i : Int) + 1) = (i + 1 : Nat) := by rw [i64_of _ (by omega) (by omega)]; simp
    have hap : appendD (env G) 35 (.sl k 2 (em gD (ls.take i).flatten)) (em gD ls[i]) c = some (.sl (appK c k) 2 (em gD (ls.take (i + 1)).flatten), appC c k (tot (ls.take (i + 1)))) := by
      rw [hf, ht, ← em_app]
      refine appendD_eq ty35 hA (by rw [em_length, tot_flat]) (by simp) ⟨rfl, by decide⟩ ?_ (okL_gD _)
      simp [maxRoom]; omega
    simp -implicitDefEqProofs (maxSteps := 10000000) [List.range, List.range.loop, keep_dense, Tryd.f59, hs, cat2, hlt, gL, hw2, hap]
    exact ⟨n - 1, by omega, i + 1, by omega, appK c k, hA.self, by simp⟩
  · obtain rfl : i = ls.length := by omega
    simp -implicitDefEqProofs (maxSteps := 10000000) [List.range, List.range.loop, keep_dense, Tryd.f59, hs, cat2]
    exact ⟨k, rfl⟩

theorem grow_app (n : Nat) (hn : n ≤ 2 ^ 30) (c : CS) (hc : 2 ≤ c.nx) : ∃ k c', FW (env G) 100 [.sl 1 2 [], .v (.int .i64 n)] c = some (.sl k 2 [], c') ∧ App c' k 0 := by
  rw [grow_ok n hn c hc]
  by_cases h : n = 0
  · exact ⟨1, c, by simp [h], .one hc⟩
  · exact ⟨c.nx, { c with tk := upd c.tk c.nx (some 0), nx := c.nx + 1 }, by simp [h], ⟨by simp; omega, .inr (by simp [upd, hc])⟩⟩

theorem concat_ok (ls : List (List (Int × Int))) (hb : tot ls ≤ 2 ^ 30) (hb2 : ls.length ≤ 2 ^ 30) : ∃ d c', FW (env G) 59 [.sl 0 1 (em gL ls)] .fresh = some (d, c') ∧ ∃ k, d = .sl k 2 (em gD ls.flatten) := by
  obtain ⟨k0, c0, hg, hA⟩ := grow_app (G := G) (tot ls) hb CS.fresh (by decide)
  refine FW_Pd [] or59 ef59' rfl (by decide) pl59 ?_
  simp -implicitDefEqProofs (maxSteps := 10000000) [List.range, List.range.loop, keep_dense, Tryd.f59]
  refine W_loop (concat_loop1 (G := G) ls hb hb2 .fresh _ ?_) ?_ ?_
  · simp -implicitDefEqProofs (maxSteps := 10000000) [List.range, List.range.loop, keep_dense, cat1, tot]
  · simp -implicitDefEqProofs (maxSteps := 10000000) [List.range, List.range.loop, keep_dense, Tryd.f59]
  rintro ex s' ⟨rfl, rfl⟩
  simp -implicitDefEqProofs (maxSteps := 10000000) [List.range, List.range.loop, keep_dense, cat1, hg]
  refine W_loop (concat_loop2 ls hb hb2 k0 c0 hA _ ?_) ?_ ?_
  · simp -implicitDefEqProofs (maxSteps := 10000000) [List.range, List.range.loop, keep_dense, cat2]
  · simp -implicitDefEqProofs (maxSteps := 10000000) [List.range, List.range.loop, keep_dense, Tryd.f59]
  rintro ex s' ⟨rfl, k, c, rfl⟩
  simp -implicitDefEqProofs (maxSteps := 10000000) [List.range, List.range.loop, keep_dense, cat2]

theorem clone_pu (k : Nat) (l : List (Int × Int)) (hb : l.length ≤ 2 ^ 30) : Pu (env G) 58 [.sl k 2 (em gD l)] (gL l) := by
  refine Pu.of (nargs := [.sl 0 2 (em gD l)]) (r := .sl CS.fresh.nx 2 (em gD l)) (c := { CS.fresh with tk := upd CS.fresh.tk CS.fresh.nx (some (em gD l).length), nx := CS.fresh.nx + 1 }) (by simp [D.norm]) ?_ (out_slU (by simp))
  rw [FW_orc (orc58 (G := G))]
  have e1 : (env0 G).ty 26 = (env G).ty 26 := rfl
  have e2 : (env0 G).ty 35 = (env G).ty 35 := rfl
  have hr : l.length * 9 ≤ maxRoom := by unfold maxRoom; omega
  simp [cloneD, e1, e2, hr]
theorem call58 (k : Nat) (l : List (Int × Int)) (hb : l.length ≤ 2 ^ 30) (t : TypeId) (c : CS) : callD (env G) (FW (env G)) .pure t 58 [.sl k 2 (em gD l)] c = some (gL l, c) := (clone_pu k l hb).call

theorem concat_pu (k : Nat) (ls : List (List (Int × Int))) (hb : tot ls ≤ 2 ^ 30) (hb2 : ls.length ≤ 2 ^ 30) : Pu (env G) 59 [.sl k 1 (em gL ls)] (gL ls.flatten) := by
  obtain ⟨d, c', h, k', rfl⟩ := concat_ok (G := G) ls hb hb2
  exact Pu.of (by simp [D.norm, em_norm (f := gL) (fun l => by simp [gL, D.norm])]) h (out_slU (by simp))

def join (a b : List (Int × Int)) : List (Int × Int) := if a = [] then b else if b = [] then a else a ++ [(32, 0)] ++ b
def gapD : List D := [.v (.int .i32 32), .v (.int .u8 0)]

theorem concat_gap (hG : G 0 = some gapD) (k k1 k2 k3 : Nat) (a b : List (Int × Int)) (hb : a.length + b.length ≤ 2 ^ 20) (t : TypeId) (c : CS) :
    callD (env G) (FW (env G)) .pure t 59 [.sl k 1 [.sl k1 2 (em gD a), .sl k2 2 [.agg gapD], .sl k3 2 (em gD b)]] c = some (gL (a ++ (32, 0) :: b), c) := by
  obtain ⟨d, c', h, k', rfl⟩ := concat_ok (G := G) [a, [(32, 0)], b] (by simp [tot]; omega) (by simp)
  refine (Pu.of (by simp [D.norm, D.normL, gapD]; rfl) h (out_slU (by simp))).call

theorem join_ok (hG : G 0 = some gapD) (k k' : Nat) (a b : List (Int × Int)) (hb : a.length + b.length ≤ 2 ^ 20) (c : CS) : FW (env G) 20 [.sl k 2 (em gD a), .sl k' 2 (em gD b)] c = some (gL (join a b), c) := by
  have h1 := call58 (G := G) k a (by omega)
  have h2 := call58 (G := G) k' b (by omega)
  have h3 := fun k k1 k2 k3 => concat_gap (G := G) hG k k1 k2 k3 a b hb 26 c
  simp only [gapD] at h3
  refine FW_Wd [] or20 ef20' rfl (by decide) pl20 ?_
  by_cases ha : a = []
  · subst ha
    simp -implicitDefEqProofs (maxSteps := 10000000) [List.range, List.range.loop, keep_dense, Tryd.f20, h2, join]
  · have ha' : ¬ a.length = 0 := by simpa using ha
    by_cases hb0 : b = []
    · subst hb0
      simp -implicitDefEqProofs (maxSteps := 10000000) [List.range, List.range.loop, keep_dense, Tryd.f20, h1, join, ha]
    · have hb' : ¬ b.length = 0 := by simpa using hb0
      simp -implicitDefEqProofs (maxSteps := 10000000) [List.range, List.range.loop, keep_dense, Tryd.f20, h1, h3, join, ha, hb0, hG, gapD, chunk]
theorem call20 (hG : G 0 = some gapD) (k k' : Nat) (a b : List (Int × Int)) (hb : a.length + b.length ≤ 2 ^ 20) (t : TypeId) (c : CS) :
    callD (env G) (FW (env G)) .pure t 20 [.sl k 2 (em gD a), .sl k' 2 (em gD b)] c = some (gL (join a b), c) :=
  (Pu.of (by simp [D.norm]) (join_ok hG 0 0 a b hb .fresh) (out_slU (by simp))).call
theorem call16 (k k' : Nat) (a b : List (Int × Int)) (hb : a.length < 2 ^ 62) (t : TypeId) (c : CS) :
    callD (env G) (FW (env G)) .pure t 16 [.sl k 2 (em gD a), .sl k' 2 (em gD b)] c = some (.v (.bool (a == b)), c) :=
  (Pu.of (by simp [D.norm]) (same_ok 0 0 a b hb .fresh) out_v).call

theorem join_length (a b : List (Int × Int)) : (join a b).length = a.length + b.length + (if a ≠ [] ∧ b ≠ [] then 1 else 0) := by
  unfold join
  by_cases ha : a = [] <;> by_cases hb : b = [] <;> simp [ha, hb]; omega
theorem join_nil {a b : List (Int × Int)} : join a b = [] ↔ a = [] ∧ b = [] := by
  unfold join
  by_cases ha : a = [] <;> by_cases hb : b = [] <;> simp [ha, hb]
theorem join_assoc (a b c : List (Int × Int)) : join (join a b) c = join a (join b c) := by
  by_cases ha : a = []
  · simp [join, ha]
  · by_cases hb : b = []
    · simp [join, ha, hb]
    · by_cases hc : c = []
      · have : join b [] = b := by simp [join, hb]
        subst hc
        rw [this]; simp [join, ha, hb]
      · simp [join, ha, hb, hc]
end Go.Proofs.YtgilkaonmhlifaaDoor.Dn
