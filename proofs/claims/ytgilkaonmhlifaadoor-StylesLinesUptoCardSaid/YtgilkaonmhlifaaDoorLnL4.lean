/- flonglaw06.StylesLines answers true. -/
import Derived.Test.YtgilkaonmhlifaaDoorLnL3
namespace Go.Proofs.YtgilkaonmhlifaaDoor.Dn
open Go.Den
set_option maxRecDepth 100000
set_option maxHeartbeats 8000000

theorem eq23 {G : Nat → Option (List D)} : (env G).eqOk 23 = some [.int .u8, .int .u8] := by show eqB Tryd.prog 23 = _; kernel_rfl

theorem setT_from (l : List (Int × Int)) : ∀ (out : List (Int × Int)) (f : Int × Int), l.foldl setStep (out, f) = (out ++ (setT f l).1, (setT f l).2) := by
  unfold setT
  induction l with
  | nil => intro out f; simp
  | cons t l ih =>
    intro out f
    simp only [List.foldl_cons]
    have h : setStep (out, f) t = (out ++ (setStep ([], f) t).1, (setStep ([], f) t).2) := by
      unfold setStep
      repeat' split
      all_goals simp
    have e : setStep ([], f) t = ((setStep ([], f) t).1, (setStep ([], f) t).2) := rfl
    rw [h, ih, e, ih (setStep ([], f) t).1]
    simp
theorem setT_app (f : Int × Int) (a b : List (Int × Int)) : setT f (a ++ b) = ((setT f a).1 ++ (setT (setT f a).2 b).1, (setT (setT f a).2 b).2) := by
  conv => lhs; unfold setT
  rw [List.foldl_append]
  have := setT_from b (setT f a).1 (setT f a).2
  exact this

def gl1 (f : Int × Int) (r : Int) : Int × Int := if r = 32 then (32, 0) else (r, f.1)
theorem setT_plain (f : Int × Int) (rs : List Int) : setT f (rs.map tokOf) = (rs.map (gl1 f), f) := by
  induction rs with
  | nil => rfl
  | cons r rs ih =>
    have h : setT f ((r :: rs).map tokOf) = (rs.map tokOf).foldl setStep (setStep ([], f) (tokOf r)) := rfl
    have e : setStep ([], f) (tokOf r) = ([gl1 f r], f) := by
      unfold setStep tokOf gl1
      by_cases hr : r = 32 <;> simp [hr]
    rw [h, e, setT_from, ih]
    simp

def PlainB (b : UInt8) : Prop := Plain b.toNat
def lines1e (s : ByteArray) (c : CS) : St := ⟨dense 172 [(71, .v (.bool false)), (70, .v (.int .i64 s.size)), (69, .v (.string s)), (68, .v (.int .i64 s.size)), (3, .v (.string s)), (4, .ptr 2 0), (16, .v (.int .i64 s.size))], c⟩
def lines1 (s : ByteArray) (i : Nat) (c : CS) : St := ⟨(dense 172 [(3, .v (.string s)), (4, .ptr 2 0), (16, .v (.int .i64 i))]), c⟩
theorem lines_loop1 (f : Int × Int) (s : ByteArray) (hl : s.size ≤ 2 ^ 20) (c : CS) (hf : c.hp 2 = some ⟨23, (fD f).cells⟩ ∧ 3 ≤ c.nx) (st : St) (hs : st.keep fi3 12 = lines1 s 0 c) :
    ∃ ex s', loopW (env gT) fi3 (loopAt [] Tryd.f3 0) st = some (ex, s') ∧ (ex = .exit 0 ∧ (∀ b ∈ s.data.toList, Plain b.toNat) ∧ (∃ C : CS, (C.hp 2 = some ⟨23, (fD f).cells⟩ ∧ 3 ≤ C.nx) ∧ s' = lines1e s C) ∨ ex = .ret ∧ isD 172 s'.sl ∧ s'.sl.getD 8 .dead = .v (.bool true)) := by
  refine loop_rule (R := fun ex s' => ex = .exit 0 ∧ (∀ b ∈ s.data.toList, Plain b.toNat) ∧ (∃ C : CS, (C.hp 2 = some ⟨23, (fD f).cells⟩ ∧ 3 ≤ C.nx) ∧ s' = lines1e s C) ∨ ex = .ret ∧ isD 172 s'.sl ∧ s'.sl.getD 8 .dead = .v (.bool true))
    (fun n st => ∃ i, i + n = s.size ∧ (∀ b ∈ s.data.toList.take i, Plain b.toNat) ∧ st.keep fi3 12 = lines1 s i c) ?_ s.size st ⟨0, by omega, by simp, hs⟩
  rintro n st ⟨i, hi, hp, hs⟩
  by_cases hlt : i < s.size
  · have hlt' : i < s.data.size := hlt
    have hw2 : IntKind.i64.wrap ((i : Int) + 1) = (i + 1 : Nat) := by rw [i64_of _ (by omega) (by omega)]; simp
    by_cases h1 : ((s.data[i].toNat : Nat) : Int) < 32
    · simp -implicitDefEqProofs (maxSteps := 10000000) [List.range, List.range.loop, keep_dense, Tryd.f3, hs, lines1, hlt, hlt', indexD, wantD, h1, call14]
    · by_cases h2 : 126 < ((s.data[i].toNat : Nat) : Int)
      · simp -implicitDefEqProofs (maxSteps := 10000000) [List.range, List.range.loop, keep_dense, Tryd.f3, hs, lines1, hlt, hlt', indexD, wantD, h1, h2, call14]
      · by_cases h3 : ((s.data[i].toNat : Nat) : Int) = 92
        · simp -implicitDefEqProofs (maxSteps := 10000000) [List.range, List.range.loop, keep_dense, Tryd.f3, hs, lines1, hlt, hlt', indexD, wantD, h1, h2, h3, call14]
        · simp -implicitDefEqProofs (maxSteps := 10000000) [List.range, List.range.loop, keep_dense, Tryd.f3, hs, lines1, hlt, hlt', indexD, wantD, h1, h2, h3, hw2]
          refine ⟨n - 1, by omega, i + 1, by omega, fun b hb => ?_, by simp⟩
          rw [List.take_add_one, List.getElem?_eq_getElem (by simpa using hlt')] at hb
          rcases List.mem_append.1 hb with hb | hb
          · exact hp b hb
          · simp at hb
            subst hb
            exact ⟨by omega, by omega, h3⟩
  · obtain rfl : i = s.size := by omega
    simp -implicitDefEqProofs (maxSteps := 10000000) [List.range, List.range.loop, keep_dense, Tryd.f3, hs, lines1, lines1e]
    refine ⟨?_, hf⟩
    intro b hb
    refine hp b ?_
    rw [List.take_of_length_le (by rw [Array.length_toList]; exact Nat.le_refl _)]
    simpa using hb

def lines2 (s : ByteArray) (p : Nat) (l : List (Int × Int)) (i : Nat) (c : CS) : St := ⟨(dense 172 [(3, .v (.string s)), (4, .ptr 2 0), (17, gL l), (18, .ptr p 0), (19, .sl 0 3 []), (20, .v (.int .i64 i))]), c⟩
def lines2e (s : ByteArray) (p : Nat) (l : List (Int × Int)) (c : CS) : St := ⟨dense 172 [(101, .v (.bool false)), (100, .v (.int .i64 s.size)), (99, gL l), (98, .v (.int .i64 s.size)), (3, .v (.string s)), (4, .ptr 2 0), (17, gL l), (18, .ptr p 0), (19, .sl 0 3 []), (20, .v (.int .i64 s.size))], c⟩
theorem lines_loop2 (f : Int × Int) (s : ByteArray) (hl : s.size ≤ 2 ^ 20) (ha : ∀ b ∈ s.data.toList, Plain b.toNat) (p : Nat) (c : CS) (hf : c.hp 2 = some ⟨23, (fD f).cells⟩) (st : St) (hs : st.keep fi3 18 = lines2 s p ((runesOf s.data.toList).map (gl1 f)) 0 c) :
    ∃ ex s', loopW (env gT) fi3 (loopAt [] Tryd.f3 1) st = some (ex, s') ∧ (ex = .exit 2 ∧ s' = lines2e s p ((runesOf s.data.toList).map (gl1 f)) c) := by
  refine loop_rule (R := fun ex s' => ex = .exit 2 ∧ s' = lines2e s p ((runesOf s.data.toList).map (gl1 f)) c)
    (fun n st => ∃ i, i + n = s.size ∧ st.keep fi3 18 = lines2 s p ((runesOf s.data.toList).map (gl1 f)) i c) ?_ s.size st ⟨0, by omega, hs⟩
  rintro n st ⟨i, hi, hs⟩
  have hL : ((runesOf s.data.toList).map (gl1 f)).length = s.size := by rw [List.length_map, runesOf, List.length_map, Array.length_toList]; rfl
  generalize hl2 : (runesOf s.data.toList).map (gl1 f) = l at *
  by_cases hlt : i < s.size
  · have hlt' : i < s.data.size := hlt
    have hltl : i < l.length := by omega
    have hli : l[i] = gl1 f (s.data[i].toNat : Int) := by subst hl2; simp [runesOf]
    have hpl := ha s.data[i] (by simp)
    obtain ⟨p1, p2, p3⟩ := hpl
    have hw2 : IntKind.i64.wrap ((i : Int) + 1) = (i + 1 : Nat) := by rw [i64_of _ (by omega) (by omega)]; simp
    have hwr : IntKind.i32.wrap ((s.data[i].toNat : Nat) : Int) = s.data[i].toNat := i32_of _ (by omega) (by omega)
    by_cases h32 : ((s.data[i].toNat : Nat) : Int) = 32
    · have e : gl1 f (s.data[i].toNat : Int) = (32, 0) := by simp [gl1, h32]
      rw [e] at hli
      have w32 := i32_of 32 (by decide) (by decide)
      simp -implicitDefEqProofs (maxSteps := 10000000) [List.range, List.range.loop, keep_dense, Tryd.f3, hs, lines2, gL, hlt, hlt', hltl, hli, indexD, wantD, hf, h32, hw2, w32]
      exact ⟨n - 1, by omega, i + 1, by omega, by simp⟩
    · have e : gl1 f (s.data[i].toNat : Int) = ((s.data[i].toNat : Int), f.1) := by simp [gl1, h32]
      rw [e] at hli
      have hne2 : (((s.data[i].toNat : Nat) : Int) == 32) = false := by simpa using h32
      have hne : (((s.data[i].toNat : Nat) : Int) != 32) = true := by simpa using h32
      simp -implicitDefEqProofs (maxSteps := 10000000) [List.range, List.range.loop, keep_dense, Tryd.f3, hs, lines2, gL, hlt, hlt', hltl, hli, indexD, wantD, hf, h32, hne, hne2, hw2, hwr]
      exact ⟨n - 1, by omega, i + 1, by omega, by simp⟩
  · obtain rfl : i = s.size := by omega
    simp -implicitDefEqProofs (maxSteps := 10000000) [List.range, List.range.loop, keep_dense, Tryd.f3, hs, lines2, lines2e, gL, hL]

theorem lines_ok (f : Int × Int) (a b : List (Int × Int)) (s : ByteArray) (hb : a.length + b.length + s.size ≤ 2 ^ 20) :
    ∃ d c', FW (env gT) 3 [fD f, .sl 0 2 (em tD a), .sl 0 2 (em tD b), .v (.string s)] .fresh = some (d, c') ∧ d = .v (.bool true) := by
  refine FW_Pd [] or3 ef3' rfl (by decide) pl3 ?_
  have hw1 : IntKind.i64.wrap ((a.length : Int) + (b.length : Int)) = (a.length : Int) + b.length := i64_of _ (by omega) (by omega)
  by_cases h3 : (300 : Int) < (a.length : Int) + b.length
  · simp -implicitDefEqProofs (maxSteps := 10000000) [List.range, List.range.loop, keep_dense, Tryd.f3, wantD, hw1, h3, call14]
  by_cases h5 : (500 : Int) < (s.size : Int)
  · simp -implicitDefEqProofs (maxSteps := 10000000) [List.range, List.range.loop, keep_dense, Tryd.f3, wantD, hw1, h3, h5, call14]
  have r1 : a.length * 17 ≤ maxRoom := by unfold maxRoom; omega
  have r2 : (a.length + b.length) * 17 ≤ maxRoom := by unfold maxRoom; omega
  have hA : App (appC (CS.fresh.new ⟨23, [.v (.int .u8 f.1), .v (.int .u8 f.2)]⟩) 1 a.length) 3 a.length := App.self (n := 0) (App.new .fresh)
  have s1 := fun k => call15 (G := gT) rfl f (a ++ b) (by simp; omega) k
  have s2 := fun k => call15 (G := gT) rfl f a (by omega) k
  have s3 := fun k => call15 (G := gT) rfl (setT f a).2 b (by omega) k
  have l1 := setT_len f a
  have l2 := setT_len (setT f a).2 b
  have s4 := fun k k' => call17 (G := gT) k k' (setT f a).1 (setT (setT f a).2 b).1 (by omega)
  have s5 := fun k k' => call16 (G := gT) k k' (setT f (a ++ b)).1 ((setT f a).1 ++ (setT (setT f a).2 b).1) (by rw [setT_app]; simp; omega)
  have e5 : ((setT f (a ++ b)).1 == ((setT f a).1 ++ (setT (setT f a).2 b).1)) = true := by rw [setT_app]; simp
  rw [e5] at s5
  have e6 : (setT f (a ++ b)).2 = (setT (setT f a).2 b).2 := by rw [setT_app]
  simp only [fD, gL, e6] at s1 s2 s3 s4 s5
  simp -implicitDefEqProofs (maxSteps := 10000000) [List.range, List.range.loop, keep_dense, Tryd.f3, wantD, hw1, h3, h5, fD, app103, r1, r2, hA, s1, s2, s3, s4, s5, eqKinds, eq23, kindsB, cellsEq]
  refine W_loop (lines_loop1 f s (by omega) ?c ?hf _ ?hs) ?_ ?_
  case hs =>
    simp -implicitDefEqProofs (maxSteps := 10000000) [List.range, List.range.loop, keep_dense, lines1]
    rfl
  case hf => simp -implicitDefEqProofs (maxSteps := 10000000) [List.range, List.range.loop, keep_dense]
  · simp -implicitDefEqProofs (maxSteps := 10000000) [List.range, List.range.loop, keep_dense, Tryd.f3]
  · rintro ex s' (⟨rfl, ha, C, ⟨hf, hn⟩, rfl⟩ | ⟨rfl, ⟨q, hq⟩, h8⟩)
    · have s6 := fun t c => call18 (G := gT) rfl f s (by omega) ha t c
      rw [setT_plain] at s6
      simp only [fD, gL] at s6
      simp only [cells_fD] at hf
      have n2 : ¬ 2 = C.nx := by omega
      simp -implicitDefEqProofs (maxSteps := 10000000) [List.range, List.range.loop, keep_dense, lines1e, hf, n2, s6]
      refine W_loop (lines_loop2 f s (by omega) ha C.nx ((C.new ⟨23, [.v (.int .u8 0), .v (.int .u8 0)]⟩).put C.nx ⟨23, [.v (.int .u8 f.1), .v (.int .u8 f.2)]⟩) ?_ _ ?_) ?_ ?_
      · simp -implicitDefEqProofs (maxSteps := 10000000) [List.range, List.range.loop, keep_dense, hf, n2]
      · simp -implicitDefEqProofs (maxSteps := 10000000) [List.range, List.range.loop, keep_dense, lines2, gL]
      · simp -implicitDefEqProofs (maxSteps := 10000000) [List.range, List.range.loop, keep_dense, Tryd.f3]
      · rintro ex s' ⟨rfl, rfl⟩
        have hL : ((runesOf s.data.toList).map (gl1 f)).length = s.size := by rw [List.length_map, runesOf, List.length_map, Array.length_toList]; rfl
        have s7 := fun t c => call19 (G := gT) f t c
        simp only [fD] at s7
        simp -implicitDefEqProofs (maxSteps := 10000000) [List.range, List.range.loop, keep_dense, lines2e, hL, gL, wantD, s7, call14, eqKinds, eq23, kindsB, cellsEq, hf, n2]
    · obtain ⟨sl, cs⟩ := s'
      obtain rfl : sl = dense 172 q := hq
      rw [dense_getD _ _ _ (by decide)] at h8
      simp -implicitDefEqProofs (maxSteps := 10000000) [List.range, List.range.loop, keep_dense, h8]
end Go.Proofs.YtgilkaonmhlifaaDoor.Dn
