/- styles.Set. -/
import Derived.Test.YtgilkaonmhlifaaDoorLnL1
namespace Go.Proofs.YtgilkaonmhlifaaDoor.Dn
open Go.Den
set_option maxRecDepth 100000
set_option maxHeartbeats 4000000
variable {G : Nat → Option (List D)}

/-- A token. -/
def tD (t : Int × Int) : D := .agg [.v (.int .i64 t.1), .v (.int .i32 t.2)]
@[simp] theorem cells_tD (p : Int × Int) : (tD p).cells = [.v (.int .i64 p.1), .v (.int .i32 p.2)] := rfl
@[simp] theorem norm_tD (p : Int × Int) : (tD p).norm = tD p := by simp [tD, D.norm, D.normL]
@[simp] theorem okL_tD (l : List (Int × Int)) : okL (em tD l) = true := em_okL (fun p => by simp) l
@[simp] theorem normL_tD (l : List (Int × Int)) : D.normL (em tD l) = em tD l := em_norm norm_tD l
@[simp] theorem snoc_tD (a : List (Int × Int)) (r s : Int) : em tD a ++ [.agg [.v (.int .i64 r), .v (.int .i32 s)]] = em tD (a ++ [(r, s)]) := em_snoc a (r, s)

def setStep (s : List (Int × Int) × (Int × Int)) (t : Int × Int) : List (Int × Int) × (Int × Int) :=
  if t.1 = 1 then (s.1 ++ [(t.2, s.2.1)], s.2) else if t.1 = 2 then (s.1 ++ [(32, 0)], s.2) else if t.1 = 3 then (s.1, turn s.2 t.2) else s
def setT (f : Int × Int) (l : List (Int × Int)) : List (Int × Int) × (Int × Int) := l.foldl setStep ([], f)
theorem setT_take (f : Int × Int) (l : List (Int × Int)) (i : Nat) (h : i < l.length) : setT f (l.take (i + 1)) = setStep (setT f (l.take i)) l[i] := by
  unfold setT
  rw [List.take_add_one, List.getElem?_eq_getElem h, List.foldl_append]; rfl
theorem setT_len (f : Int × Int) (l : List (Int × Int)) : (setT f l).1.length ≤ l.length := by
  have key : ∀ (l : List (Int × Int)) (s : List (Int × Int) × (Int × Int)), (l.foldl setStep s).1.length ≤ s.1.length + l.length := by
    intro l
    induction l with
    | nil => intro s; simp
    | cons t l ih =>
      intro s
      have := ih (setStep s t)
      have h2 : (setStep s t).1.length ≤ s.1.length + 1 := by
        unfold setStep
        repeat' split
        all_goals simp
      simp only [List.foldl_cons, List.length_cons]; omega
  simpa [setT] using key l ([], f)

def set_st (l : List (Int × Int)) (k : Nat) (i : Nat) (out : List (Int × Int)) (c : CS) : St :=
  ⟨(dense 42 [(2, .ptr 2 0), (5, .ptr 3 0), (6, .sl k 2 (em gD out)), (9, .sl 0 2 (em tD l)), (10, .v (.int .i64 l.length)), (11, .v (.int .i64 i))]), c⟩
def SetC (f : Int × Int) (k n : Nat) (c : CS) : Prop := App c k n ∧ c.hp 2 = some ⟨23, (fD f).cells⟩ ∧ c.hp 3 = some ⟨23, [.v (.int .u8 0), .v (.int .u8 0)]⟩ ∧ 4 ≤ c.nx

theorem SetC.loc {f : Int × Int} {k n : Nat} {c : CS} (h : SetC f k n c) (o o' : Den.Obj) : SetC f k n ((c.new o).put c.nx o') := by
  obtain ⟨h1, h2, h3, h4⟩ := h
  have n2 : ¬ 2 = c.nx := by omega
  have n3 : ¬ 3 = c.nx := by omega
  exact ⟨by simp [h1], by simp [n2, h2], by simp [n3, h3], by simp; omega⟩
theorem SetC.app {f : Int × Int} {k n : Nat} {c : CS} (h : SetC f k n c) (m : Nat) : SetC f (appK c k) m (appC c k m) := by
  obtain ⟨h1, h2, h3, h4⟩ := h
  exact ⟨h1.self, by simp [h2], by simp [h3], Nat.le_trans h4 app_nx_le⟩
theorem SetC.face {f : Int × Int} {k n : Nat} {c : CS} (h : SetC f k n c) (f' : Int × Int) : SetC f' k n (c.put 2 ⟨23, (fD f').cells⟩) := by
  obtain ⟨h1, h2, h3, h4⟩ := h
  exact ⟨by simp [h1], by simp, by simp [h3], by simpa using h4⟩

theorem set_loop (hG : G 0 = some gapD) (f : Int × Int) (l : List (Int × Int)) (hl : l.length ≤ 2 ^ 20) (k : Nat) (c : CS) (hC : SetC f k 0 c) (s : St) (hs : s.keep fi15 3 = set_st l k 0 [] c) :
    ∃ ex s', loopW (env G) fi15 (loopAt [] Tryd.f15 0) s = some (ex, s') ∧ (ex = .exit 0 ∧ ∃ k c, SetC (setT f l).2 k (setT f l).1.length c ∧ s' = (set_st l k l.length (setT f l).1 c).put (some 12) (.v (.bool false))) := by
  refine loop_rule (R := fun ex s' => ex = .exit 0 ∧ ∃ k c, SetC (setT f l).2 k (setT f l).1.length c ∧ s' = (set_st l k l.length (setT f l).1 c).put (some 12) (.v (.bool false)))
    (fun n s => ∃ i k c, i + n = l.length ∧ SetC (setT f (l.take i)).2 k (setT f (l.take i)).1.length c ∧ s.keep fi15 3 = set_st l k i (setT f (l.take i)).1 c) ?_ l.length s ⟨0, k, c, by omega, hC, hs⟩
  rintro n s ⟨i, k, c, hi, ⟨hA, h2, h3, hn⟩, hs⟩
  have hle := setT_len f (l.take i)
  have hle2 : (l.take i).length ≤ i := List.length_take_le _ _
  by_cases hlt : i < l.length
  · have hst := setT_take f l i hlt
    have hw2 : IntKind.i64.wrap ((i : Int) + 1) = (i + 1 : Nat) := by rw [i64_of _ (by omega) (by omega)]; simp
    have n2 : ¬ 2 = c.nx := by omega
    have n3 : ¬ 3 = c.nx := by omega
    generalize hS : setT f (l.take i) = S at *
    obtain ⟨out, g⟩ := S
    simp only at hA h2 h3 hs hle
    have r1 : (out.length + 1) * 9 ≤ maxRoom := by unfold maxRoom; omega
    have hC : SetC g k out.length c := ⟨hA, h2, h3, hn⟩
    by_cases h1 : l[i].1 = 1
    · simp -implicitDefEqProofs (maxSteps := 10000000) [List.range, List.range.loop, keep_dense, Tryd.f15, hs, set_st, hlt, h1, h2, h3, n2, n3, app35, hA, r1, hw2]
      refine ⟨n - 1, by omega, i + 1, by omega, ?_⟩
      rw [hst]; simp [setStep, h1]
      exact ⟨_, (hC.loc _ _).app _, rfl⟩
    · by_cases h2' : l[i].1 = 2
      · simp -implicitDefEqProofs (maxSteps := 10000000) [List.range, List.range.loop, keep_dense, Tryd.f15, hs, set_st, hlt, h1, h2', h2, h3, n2, n3, app35, hA, r1, hw2, hG, gapD]
        refine ⟨n - 1, by omega, i + 1, by omega, ?_⟩
        rw [hst]; simp [setStep, h2']
        exact ⟨_, (hC.loc _ _).app _, rfl⟩
      · by_cases h3' : l[i].1 = 3
        · have ht := fun c => call56 (G := G) g l[i].2 23 c
          simp only [fD] at ht
          simp -implicitDefEqProofs (maxSteps := 10000000) [List.range, List.range.loop, keep_dense, Tryd.f15, hs, set_st, hlt, h1, h2', h3', h2, h3, n2, n3, hA, hw2, ht]
          refine ⟨n - 1, by omega, i + 1, by omega, ?_⟩
          rw [hst]; simp [setStep, h3']
          exact ⟨_, (hC.loc _ _).face (turn g l[i].2), rfl⟩
        · simp -implicitDefEqProofs (maxSteps := 10000000) [List.range, List.range.loop, keep_dense, Tryd.f15, hs, set_st, hlt, h1, h2', h3', h2, h3, n2, n3, hA, hw2]
          refine ⟨n - 1, by omega, i + 1, by omega, ?_⟩
          rw [hst]; simp [setStep, h1, h2', h3']
          exact ⟨_, hC.loc _ _, rfl⟩
  · obtain rfl : i = l.length := by omega
    rw [List.take_length] at hA h2 hs
    simp -implicitDefEqProofs (maxSteps := 10000000) [List.range, List.range.loop, keep_dense, Tryd.f15, hs, set_st]
    exact ⟨k, ⟨hA, h2, h3, hn⟩, rfl⟩

theorem set_ok (hG : G 0 = some gapD) (f : Int × Int) (l : List (Int × Int)) (hl : l.length ≤ 2 ^ 20) : ∃ d c', FW (env G) 15 [fD f, .sl 0 2 (em tD l)] .fresh = some (d, c') ∧ ∃ k, d = .tup [.sl k 2 (em gD (setT f l).1), fD (setT f l).2] := by
  refine FW_Pd [] or15 ef15' rfl (by decide) pl15 ?_
  simp -implicitDefEqProofs (maxSteps := 10000000) [List.range, List.range.loop, keep_dense, Tryd.f15, fD]
  refine W_loop (set_loop hG f l hl 1 ((CS.fresh.new ⟨23, [.v (.int .u8 f.1), .v (.int .u8 f.2)]⟩).new ⟨23, [.v (.int .u8 0), .v (.int .u8 0)]⟩) ⟨⟨Nat.le_of_ble_eq_true rfl, .inl rfl⟩, rfl, rfl, Nat.le_of_ble_eq_true rfl⟩ _ ?_) ?_ ?_
  · simp -implicitDefEqProofs (maxSteps := 10000000) [List.range, List.range.loop, keep_dense, set_st]
  · simp -implicitDefEqProofs (maxSteps := 10000000) [List.range, List.range.loop, keep_dense, Tryd.f15]
  · rintro ex s' ⟨rfl, k, c, ⟨hA, h2, h3, hn⟩, rfl⟩
    simp -implicitDefEqProofs (maxSteps := 10000000) [List.range, List.range.loop, keep_dense, set_st, h2, h3]
theorem call15 (hG : G 0 = some gapD) (f : Int × Int) (l : List (Int × Int)) (hl : l.length ≤ 2 ^ 20) (k : Nat) (t : TypeId) (c : CS) : callD (env G) (FW (env G)) .pure t 15 [fD f, .sl k 2 (em tD l)] c = some (.tup [gL (setT f l).1, fD (setT f l).2], c) := by
  obtain ⟨d, c', h, q, rfl⟩ := set_ok (G := G) hG f l hl
  exact (Pu.of (by simp [D.norm]) h ⟨_, rfl, by simp [unmark, unmark1, fD, D.norm, D.normL, gL]⟩).call
end Go.Proofs.YtgilkaonmhlifaaDoor.Dn
