/- flonglaw11.MdocJoins answers true, known() granted. -/
import Derived.Test.YtgilkaonmhlifaaDoorMjM2
namespace Go.Proofs.YtgilkaonmhlifaaDoor.Dn
open Go.Den
set_option maxRecDepth 100000
set_option maxHeartbeats 8000000
variable {G : Nat → Option (List D)}

/-- known() of chapter 11. -/
def Known26 (G : Nat → Option (List D)) : Prop := ∀ (t : TypeId) (c : CS), callD (env G) (FW (env G)) .pure t 26 [] c = some (.v (.bool true), c)

def mj1 (l : List Pc) (n i k : Nat) (c : CS) : St := ⟨(dense 147 [(0, .sl 0 3 (em pD l)), (3, .v (.int .i64 n)), (4, .v (.int .i64 i)), (5, .v (.int .i64 k))]), c⟩
def mj0 (l : List Pc) (n i : Nat) (c : CS) : St := ⟨(dense 147 [(0, .sl 0 3 (em pD l)), (3, .v (.int .i64 n)), (4, .v (.int .i64 i))]), c⟩

def noBlanks (l : List Pc) : Prop := ∀ p ∈ l, noBlank p.1
/-- The inner loop: has a text a blank? -/
theorem mj_inner (hK : Known26 G) (l : List Pc) (n i : Nat) (hi : i < l.length) (hl : l[i].1.length ≤ 2 ^ 20) (s : St) (c : CS) (hs : s.keep fi6 7 = mj1 l n i 0 c) :
    ∃ ex s', loopW (env G) fi6 (loopAt [] Tryd.f6 1) s = some (ex, s') ∧ (ex = .exit 2 ∧ noBlank l[i].1 ∧ isD 147 s'.sl ∧ s'.cs = c ∧ s'.sl.getD 0 .dead = .sl 0 3 (em pD l) ∧ s'.sl.getD 3 .dead = .v (.int .i64 n) ∧ s'.sl.getD 4 .dead = .v (.int .i64 i) ∨ ex = .ret ∧ isD 147 s'.sl ∧ s'.sl.getD 2 .dead = .v (.bool true)) := by
  refine loop_rule (R := fun ex s' => ex = .exit 2 ∧ noBlank l[i].1 ∧ isD 147 s'.sl ∧ s'.cs = c ∧ s'.sl.getD 0 .dead = .sl 0 3 (em pD l) ∧ s'.sl.getD 3 .dead = .v (.int .i64 n) ∧ s'.sl.getD 4 .dead = .v (.int .i64 i) ∨ ex = .ret ∧ isD 147 s'.sl ∧ s'.sl.getD 2 .dead = .v (.bool true))
    (fun m s => ∃ k, k + m = l[i].1.length ∧ noBlank (l[i].1.take k) ∧ s.keep fi6 7 = mj1 l n i k c) ?_ l[i].1.length s ⟨0, by omega, by simp [noBlank], hs⟩
  rintro m s ⟨k, hk, hn, hs⟩
  by_cases hlt : k < l[i].1.length
  · have hw2 : IntKind.i64.wrap ((k : Int) + 1) = (k + 1 : Nat) := by rw [i64_of _ (by omega) (by omega)]; simp
    have hkn := fun t c => hK t c
    by_cases h32 : l[i].1[k].1 = 32
    · simp -implicitDefEqProofs (maxSteps := 10000000) [List.range, List.range.loop, keep_dense, Tryd.f6, hs, mj1, hi, gL, hlt, h32, hkn]
    · have hb : (l[i].1[k].1 == 32) = false := by simpa using h32
      simp -implicitDefEqProofs (maxSteps := 10000000) [List.range, List.range.loop, keep_dense, Tryd.f6, hs, mj1, hi, gL, hlt, h32, hb, hw2]
      refine ⟨m - 1, by omega, k + 1, by omega, fun g hg => ?_, by simp⟩
      rw [List.take_add_one, List.getElem?_eq_getElem hlt] at hg
      rcases List.mem_append.1 hg with hg | hg
      · exact hn g hg
      · simp at hg; subst hg; exact h32
  · obtain rfl : k = l[i].1.length := by omega
    rw [List.take_length] at hn
    simp -implicitDefEqProofs (maxSteps := 10000000) [List.range, List.range.loop, keep_dense, Tryd.f6, hs, mj1, hi, gL, hn]

theorem mj_outer (hK : Known26 G) (l : List Pc) (hl : pTot l ≤ 2 ^ 20) (hl2 : l.length ≤ 2 ^ 20) (s : St) (c : CS) (hs : s.keep fi6 3 = mj0 l 0 0 c) :
    ∃ ex s', loopW (env G) fi6 (loopAt [] Tryd.f6 0) s = some (ex, s') ∧ (ex = .exit 0 ∧ noBlanks l ∧ isD 147 s'.sl ∧ s'.cs = c ∧ s'.sl.getD 0 .dead = .sl 0 3 (em pD l) ∧ s'.sl.getD 3 .dead = .v (.int .i64 (pTot l)) ∨ ex = .ret ∧ isD 147 s'.sl ∧ s'.sl.getD 2 .dead = .v (.bool true)) := by
  refine loop_rule (R := fun ex s' => ex = .exit 0 ∧ noBlanks l ∧ isD 147 s'.sl ∧ s'.cs = c ∧ s'.sl.getD 0 .dead = .sl 0 3 (em pD l) ∧ s'.sl.getD 3 .dead = .v (.int .i64 (pTot l)) ∨ ex = .ret ∧ isD 147 s'.sl ∧ s'.sl.getD 2 .dead = .v (.bool true))
    (fun m s => ∃ i, i + m = l.length ∧ noBlanks (l.take i) ∧ s.keep fi6 3 = mj0 l (pTot (l.take i)) i c) ?_ l.length s ⟨0, by omega, by simp [noBlanks], by simpa [pTot] using hs⟩
  rintro m s ⟨i, hm, hn, hs⟩
  have hle := pTot_le l i
  by_cases hlt : i < l.length
  · have hpt := pTot_take l i hlt
    have hle1 := pTot_le l (i + 1)
    have hw1 : IntKind.i64.wrap ((pTot (l.take i) : Int) + 1) = (pTot (l.take i) : Int) + 1 := i64_of _ (by omega) (by omega)
    have hw2 : IntKind.i64.wrap ((i : Int) + 1) = (i + 1 : Nat) := by rw [i64_of _ (by omega) (by omega)]; simp
    have hw3 : IntKind.i64.wrap ((pTot (l.take i) : Int) + 1 + (l[i].1.length : Int)) = (pTot (l.take (i + 1)) : Nat) := by rw [hpt, i64_of _ (by omega) (by omega)]; simp
    simp -implicitDefEqProofs (maxSteps := 10000000) [List.range, List.range.loop, keep_dense, Tryd.f6, hs, mj0, hlt, gL, hw1, hw3]
    refine W_loop (mj_inner hK l (pTot (l.take (i + 1))) i hlt (by omega) _ c ?_) ?_ ?_
    · simp -implicitDefEqProofs (maxSteps := 10000000) [List.range, List.range.loop, keep_dense, mj1]
    · simp -implicitDefEqProofs (maxSteps := 10000000) [List.range, List.range.loop, keep_dense, Tryd.f6]
    · rintro ex ⟨sl, cs⟩ (⟨rfl, hnb, ⟨q, rfl⟩, rfl, h0, h3, h4⟩ | ⟨rfl, ⟨q, rfl⟩, h2⟩)
      · rw [dense_getD _ _ _ (by decide)] at h0 h3 h4
        simp -implicitDefEqProofs (maxSteps := 10000000) [List.range, List.range.loop, keep_dense, h0, h3, h4, hw2]
        refine ⟨m - 1, by omega, i + 1, by omega, fun p hp => ?_, by simp⟩
        rw [List.take_add_one, List.getElem?_eq_getElem hlt] at hp
        rcases List.mem_append.1 hp with hp | hp
        · exact hn p hp
        · simp at hp; subst hp; exact hnb
      · rw [dense_getD _ _ _ (by decide)] at h2
        simp -implicitDefEqProofs (maxSteps := 10000000) [List.range, List.range.loop, keep_dense, h2]
  · obtain rfl : i = l.length := by omega
    rw [List.take_length] at hn hs
    simp -implicitDefEqProofs (maxSteps := 10000000) [List.range, List.range.loop, keep_dense, Tryd.f6, hs, mj0]
    exact hn

def mjB (l : List Pc) (J : List (Int × Int)) (k : Nat) (b : BS) (i : Nat) (c : CS) : St := ⟨(dense 147 [(0, .sl 0 3 (em pD l)), (6, .sl 0 2 (em gD J)), (7, .sl k 2 (em gD b.all)), (8, .ptr 2 0), (9, .v (.bool b.first)), (10, .v (.int .i64 b.blanks)), (11, .v (.int .i64 i))]), c⟩
def MjC (b : BS) (k : Nat) (c : CS) : Prop := App c k b.all.length ∧ ∃ x, c.hp 2 = some ⟨54, [x, .v (.bool b.last.2.1), .v (.bool b.last.2.2)]⟩

theorem bAll_len (l : List Pc) (i : Nat) : (bAll (l.take i)).all.length + (bAll (l.take i)).blanks ≤ pTot (l.take i) := by
  induction i with
  | zero => simp [bAll]
  | succ i ih =>
    by_cases h : i < l.length
    · rw [bAll_take l i h, pTot_take l i h]
      unfold bStep
      split
      · omega
      · simp only [List.length_append]
        split <;> omega
    · rw [List.take_of_length_le (by omega)]
      rw [List.take_of_length_le (by omega)] at ih
      exact ih

theorem mj_third (l : List Pc) (J : List (Int × Int)) (hl : pTot l ≤ 2 ^ 20) (hl2 : l.length ≤ 2 ^ 20) (s : St) (k : Nat) (c : CS) (hC : MjC (bAll []) k c) (hs : s.keep fi6 19 = mjB l J k (bAll []) 0 c) :
    ∃ ex s', loopW (env G) fi6 (loopAt [] Tryd.f6 2) s = some (ex, s') ∧ (ex = .exit 4 ∧ isD 147 s'.sl ∧ s'.sl.getD 6 .dead = .sl 0 2 (em gD J) ∧ (∃ k, s'.sl.getD 7 .dead = .sl k 2 (em gD (bAll l).all)) ∧ s'.sl.getD 10 .dead = .v (.int .i64 (bAll l).blanks) ∧ 2 ≤ s'.cs.nx) := by
  refine loop_rule (R := fun ex s' => ex = .exit 4 ∧ isD 147 s'.sl ∧ s'.sl.getD 6 .dead = .sl 0 2 (em gD J) ∧ (∃ k, s'.sl.getD 7 .dead = .sl k 2 (em gD (bAll l).all)) ∧ s'.sl.getD 10 .dead = .v (.int .i64 (bAll l).blanks) ∧ 2 ≤ s'.cs.nx)
    (fun m s => ∃ i k c, i + m = l.length ∧ MjC (bAll (l.take i)) k c ∧ s.keep fi6 19 = mjB l J k (bAll (l.take i)) i c) ?_ l.length s ⟨0, k, c, by omega, hC, hs⟩
  rintro m s ⟨i, k, c, hm, ⟨hA, x0, h2⟩, hs⟩
  have hle := bAll_len l i
  by_cases hlt : i < l.length
  · have hst := bAll_take l i hlt
    have hle1 := pTot_le l (i + 1)
    have hpt := pTot_take l i hlt
    have hw2 : IntKind.i64.wrap ((i : Int) + 1) = (i + 1 : Nat) := by rw [i64_of _ (by omega) (by omega)]; simp
    generalize hS : bAll (l.take i) = S at *
    obtain ⟨all, ⟨lt, ll, lr⟩, first, blanks⟩ := S
    generalize hP : l[i] = P at *
    obtain ⟨tx, lf, rt⟩ := P
    simp only at hA h2 hs hle hpt
    have hw3 : IntKind.i64.wrap ((blanks : Int) + 1) = (blanks : Int) + 1 := i64_of _ (by omega) (by omega)
    by_cases htx : tx = []
    · subst htx
      simp -implicitDefEqProofs (maxSteps := 10000000) [List.range, List.range.loop, keep_dense, Tryd.f6, hs, mjB, hlt, hP, gL, hw2]
      refine ⟨m - 1, by omega, i + 1, by omega, ?_⟩
      rw [hst]; simp [bStep]
      exact ⟨k, ⟨hA, x0, h2⟩, rfl⟩
    · have r0 : (all.length + tx.length) * 9 ≤ maxRoom := by unfold maxRoom; omega
      by_cases hc : first = false ∧ lr = false ∧ lf = false
      · obtain ⟨rfl, rfl, rfl⟩ := hc
        simp -implicitDefEqProofs (maxSteps := 10000000) [List.range, List.range.loop, keep_dense, Tryd.f6, hs, mjB, hlt, hP, gL, htx, hw2, wantD, app35, hA, r0, h2, hw3]
        refine ⟨m - 1, by omega, i + 1, by omega, ?_⟩
        rw [hst]; simp [bStep, htx]
        exact ⟨_, ⟨by simpa using hA.self, gL tx, by simp [gL]⟩, rfl⟩
      · have hst2 : bStep ⟨all, (lt, ll, lr), first, blanks⟩ (tx, lf, rt) = ⟨all ++ tx, (tx, lf, rt), false, blanks⟩ := by
          simp only [bStep, htx, if_false, hc]
        cases first with
        | true =>
          simp -implicitDefEqProofs (maxSteps := 10000000) [List.range, List.range.loop, keep_dense, Tryd.f6, hs, mjB, hlt, hP, gL, htx, hw2, wantD, app35, hA, r0, h2]
          refine ⟨m - 1, by omega, i + 1, by omega, ?_⟩
          rw [hst, hst2]
          exact ⟨_, ⟨by simpa using hA.self, gL tx, by simp [gL]⟩, by simp⟩
        | false => cases lr with
          | true =>
            simp -implicitDefEqProofs (maxSteps := 10000000) [List.range, List.range.loop, keep_dense, Tryd.f6, hs, mjB, hlt, hP, gL, htx, hw2, wantD, app35, hA, r0, h2]
            refine ⟨m - 1, by omega, i + 1, by omega, ?_⟩
            rw [hst, hst2]
            exact ⟨_, ⟨by simpa using hA.self, gL tx, by simp [gL]⟩, by simp⟩
          | false => cases lf with
            | true =>
              simp -implicitDefEqProofs (maxSteps := 10000000) [List.range, List.range.loop, keep_dense, Tryd.f6, hs, mjB, hlt, hP, gL, htx, hw2, wantD, app35, hA, r0, h2]
              refine ⟨m - 1, by omega, i + 1, by omega, ?_⟩
              rw [hst, hst2]
              exact ⟨_, ⟨by simpa using hA.self, gL tx, by simp [gL]⟩, by simp⟩
            | false => exact absurd ⟨rfl, rfl, rfl⟩ hc
  · obtain rfl : i = l.length := by omega
    rw [List.take_length] at hA h2 hs
    simp -implicitDefEqProofs (maxSteps := 10000000) [List.range, List.range.loop, keep_dense, Tryd.f6, hs, mjB]
    exact hA.1

def mjI (J all : List (Int × Int)) (ka : Nat) (bl : Nat) (k : Nat) (i : Nat) (c : CS) : St := ⟨(dense 147 [(6, .sl 0 2 (em gD J)), (7, .sl ka 2 (em gD all)), (10, .v (.int .i64 bl)), (12, .sl k 2 (em gD ((J.take i).filter inkB))), (13, .v (.int .i64 i))]), c⟩
theorem mj_fourth (J all : List (Int × Int)) (ka bl : Nat) (hl : J.length ≤ 2 ^ 21) (hg : ∀ (i : Nat) (h : i < J.length), J[i].1 = 32 → i ≠ 0 ∧ i + 1 ≠ J.length ∧ J[i].2 = 0) (s : St) (k : Nat) (c : CS) (hA : App c k 0) (hs : s.keep fi6 29 = mjI J all ka bl k 0 c) :
    ∃ ex s', loopW (env G) fi6 (loopAt [] Tryd.f6 3) s = some (ex, s') ∧ (ex = .exit 6 ∧ isD 147 s'.sl ∧ s'.sl.getD 6 .dead = .sl 0 2 (em gD J) ∧ s'.sl.getD 7 .dead = .sl ka 2 (em gD all) ∧ s'.sl.getD 10 .dead = .v (.int .i64 bl) ∧ ∃ k, s'.sl.getD 12 .dead = .sl k 2 (em gD (J.filter inkB))) := by
  refine loop_rule (R := fun ex s' => ex = .exit 6 ∧ isD 147 s'.sl ∧ s'.sl.getD 6 .dead = .sl 0 2 (em gD J) ∧ s'.sl.getD 7 .dead = .sl ka 2 (em gD all) ∧ s'.sl.getD 10 .dead = .v (.int .i64 bl) ∧ ∃ k, s'.sl.getD 12 .dead = .sl k 2 (em gD (J.filter inkB)))
    (fun m s => ∃ i k c, i + m = J.length ∧ App c k ((J.take i).filter inkB).length ∧ s.keep fi6 29 = mjI J all ka bl k i c) ?_ J.length s ⟨0, k, c, by omega, by simpa using hA, by simpa using hs⟩
  rintro m s ⟨i, k, c, hm, hA, hs⟩
  by_cases hlt : i < J.length
  · have hw2 : IntKind.i64.wrap ((i : Int) + 1) = (i + 1 : Nat) := by rw [i64_of _ (by omega) (by omega)]; simp
    have hle : ((J.take i).filter inkB).length ≤ i := Nat.le_trans (List.length_filter_le _ _) (List.length_take_le _ _)
    have hst : (J.take (i + 1)).filter inkB = (J.take i).filter inkB ++ (if inkB J[i] then [J[i]] else []) := by
      rw [List.take_add_one, List.getElem?_eq_getElem hlt, List.filter_append]
      simp only [Option.toList_some, List.filter_cons, List.filter_nil]
    generalize hI : (J.take i).filter inkB = I at *
    by_cases h32 : J[i].1 = 32
    · obtain ⟨g1, g2, g3⟩ := hg i hlt h32
      have h0 : ((i : Int) == 0) = false := by simpa using g1
      have hw3 : IntKind.i64.wrap ((J.length : Int) - 1) = (J.length : Int) - 1 := i64_of _ (by omega) (by omega)
      have h1 : ((i : Int) == (J.length : Int) - 1) = false := by simp; omega
      have hi : inkB J[i] = false := by simp [inkB, h32]
      rw [hi] at hst
      simp only [Bool.false_eq_true, if_false, List.append_nil] at hst
      have hsI : s.keep fi6 29 = ⟨(dense 147 [(6, .sl 0 2 (em gD J)), (7, .sl ka 2 (em gD all)), (10, .v (.int .i64 bl)), (12, .sl k 2 (em gD I)), (13, .v (.int .i64 i))]), c⟩ := by rw [hs, mjI, hI]
      simp -implicitDefEqProofs (maxSteps := 10000000) [List.range, List.range.loop, keep_dense, Tryd.f6, hsI, mjI, hlt, gL, h32, g3, h0, h1, hw2, hw3, wantD, g1]
      refine ⟨m - 1, by omega, i + 1, by omega, k, ?_, ?_⟩ <;> rw [hst]
      · exact hA
      · simp
    · have hb : (J[i].1 != 32) = true := by simpa using h32
      have hi : inkB J[i] = true := by simp [inkB, h32]
      rw [hi] at hst
      simp only [if_true] at hst
      have r0 : (I.length + 1) * 9 ≤ maxRoom := by unfold maxRoom; omega
      have hsI : s.keep fi6 29 = ⟨(dense 147 [(6, .sl 0 2 (em gD J)), (7, .sl ka 2 (em gD all)), (10, .v (.int .i64 bl)), (12, .sl k 2 (em gD I)), (13, .v (.int .i64 i))]), c⟩ := by rw [hs, mjI, hI]
      simp -implicitDefEqProofs (maxSteps := 10000000) [List.range, List.range.loop, keep_dense, Tryd.f6, hsI, mjI, hlt, gL, h32, hb, hw2, app35, hA, r0]
      refine ⟨m - 1, by omega, i + 1, by omega, ?_⟩
      rw [hst]
      exact ⟨appK c k, by simpa using hA.self, by simp⟩
  · obtain rfl : i = J.length := by omega
    rw [List.take_length] at hA
    have hs' : s.keep fi6 29 = ⟨(dense 147 [(6, .sl 0 2 (em gD J)), (7, .sl ka 2 (em gD all)), (10, .v (.int .i64 bl)), (12, .sl k 2 (em gD (J.filter inkB))), (13, .v (.int .i64 J.length))]), c⟩ := by rw [hs, mjI, List.take_length]
    simp -implicitDefEqProofs (maxSteps := 10000000) [List.range, List.range.loop, keep_dense, Tryd.f6, hs']

theorem mjoins_ok (hK : Known26 G) (l : List Pc) (hl : pTot l ≤ 2 ^ 20) (hl2 : l.length ≤ 2 ^ 20) : ∃ d c', FW (env G) 6 [.sl 0 3 (em pD l)] .fresh = some (d, c') ∧ d = .v (.bool true) := by
  refine FW_Pd [] or6 ef6' rfl (by decide) pl6 ?_
  have hkn := fun t c => hK t c
  simp -implicitDefEqProofs (maxSteps := 10000000) [List.range, List.range.loop, keep_dense, Tryd.f6]
  refine W_loop (mj_outer hK l hl hl2 _ .fresh ?_) ?_ ?_
  · simp -implicitDefEqProofs (maxSteps := 10000000) [List.range, List.range.loop, keep_dense, mj0]
  · simp -implicitDefEqProofs (maxSteps := 10000000) [List.range, List.range.loop, keep_dense, Tryd.f6]
  rintro ex ⟨sl, cs⟩ (⟨rfl, hnb, ⟨q, rfl⟩, rfl, h0, h3⟩ | ⟨rfl, ⟨q, rfl⟩, h2⟩)
  · rw [dense_getD _ _ _ (by decide)] at h0 h3
    by_cases hbig : (300 : Int) < (pTot l : Int)
    · simp -implicitDefEqProofs (maxSteps := 10000000) [List.range, List.range.loop, keep_dense, h0, h3, hbig, hkn]
    · have hj := fun k t c => call27 (G := G) l hl hl2 k t c
      have hgood := good_all l hnb
      have hlen : (jAll l).1.length ≤ pTot l := by have := jAll_len l l.length; rwa [List.take_length] at this
      generalize hJ : (jAll l).1 = J at *
      generalize hB : (jAll l).2 = bb at *
      simp only [gL] at hj
      simp -implicitDefEqProofs (maxSteps := 10000000) [List.range, List.range.loop, keep_dense, h0, h3, hbig, hj]
      refine W_loop (mj_third l J hl hl2 _ 1 (CS.fresh.new ⟨54, [.sl 1 2 [], .v (.bool false), .v (.bool false)]⟩) ⟨⟨Nat.le_of_ble_eq_true rfl, .inl rfl⟩, _, rfl⟩ ?_) ?_ ?_
      · simp -implicitDefEqProofs (maxSteps := 10000000) [List.range, List.range.loop, keep_dense, mjB, bAll, h0]
      · simp -implicitDefEqProofs (maxSteps := 10000000) [List.range, List.range.loop, keep_dense, Tryd.f6]
      rintro ex ⟨sl, cs⟩ ⟨rfl, ⟨q2, rfl⟩, h6, ⟨ka, h7⟩, h10, hnx⟩
      rw [dense_getD _ _ _ (by decide)] at h6 h7 h10
      simp -implicitDefEqProofs (maxSteps := 10000000) [List.range, List.range.loop, keep_dense, h6, h7, h10]
      refine W_loop (mj_fourth J (bAll l).all ka (bAll l).blanks (by omega) (good_at hgood) _ 1 cs (App.one hnx) ?_) ?_ ?_
      · simp -implicitDefEqProofs (maxSteps := 10000000) [List.range, List.range.loop, keep_dense, mjI, h6, h7, h10]
      · simp -implicitDefEqProofs (maxSteps := 10000000) [List.range, List.range.loop, keep_dense, Tryd.f6]
      rintro ex ⟨sl, cs⟩ ⟨rfl, ⟨q3, rfl⟩, k6, k7, k10, ⟨kk, k12⟩⟩
      rw [dense_getD _ _ _ (by decide)] at k6 k7 k10 k12
      have hsame := fun k k' t c => call16 (G := G) k k' (J.filter inkB) (bAll l).all (by have := List.length_filter_le inkB J; omega) t c
      have hbl := bAll_len l l.length
      rw [List.take_length] at hbl
      have hwl : IntKind.i64.wrap (((bAll l).all.length : Int) + ((bAll l).blanks : Int)) = (J.length : Nat) := by rw [hgood.len, i64_of _ (by omega) (by omega)]; simp
      have hee : (J.filter inkB == (bAll l).all) = true := by simp [hgood.ink]
      simp -implicitDefEqProofs (maxSteps := 10000000) [List.range, List.range.loop, keep_dense, k6, k7, k10, k12, hsame, hwl, wantD, hee, hkn]
  · rw [dense_getD _ _ _ (by decide)] at h2
    simp -implicitDefEqProofs (maxSteps := 10000000) [List.range, List.range.loop, keep_dense, h2]
end Go.Proofs.YtgilkaonmhlifaaDoor.Dn
