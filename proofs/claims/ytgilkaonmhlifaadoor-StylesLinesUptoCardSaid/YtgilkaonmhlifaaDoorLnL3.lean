/- runes.first, Decode, Control, escape's say and Scan, styles.Line: of a text of plain signs. -/
import Derived.Test.YtgilkaonmhlifaaDoorLnL2
namespace Go.Proofs.YtgilkaonmhlifaaDoor.Dn
open Go.Den
set_option maxRecDepth 100000
set_option maxHeartbeats 4000000
variable {G : Nat → Option (List D)}

/-- A byte; a rune. -/
def bD (b : UInt8) : D := .v (.int .u8 b.toNat)
def rD (r : Int) : D := .v (.int .i32 r)
@[simp] theorem cells_bD (b : UInt8) : (bD b).cells = [.v (.int .u8 b.toNat)] := rfl
@[simp] theorem cells_rD (b : Int) : (rD b).cells = [.v (.int .i32 b)] := rfl
@[simp] theorem norm_bD (p : UInt8) : (bD p).norm = bD p := rfl
@[simp] theorem norm_rD (p : Int) : (rD p).norm = rD p := rfl
@[simp] theorem okL_bD (l : List UInt8) : okL (em bD l) = true := em_okL (fun p => by simp) l
@[simp] theorem okL_rD (l : List Int) : okL (em rD l) = true := em_okL (fun p => by simp) l
@[simp] theorem normL_bD (l : List UInt8) : D.normL (em bD l) = em bD l := em_norm norm_bD l
@[simp] theorem normL_rD (l : List Int) : D.normL (em rD l) = em rD l := em_norm norm_rD l
@[simp] theorem snoc_rD (a : List Int) (r : Int) : em rD a ++ [.v (.int .i32 r)] = em rD (a ++ [r]) := em_snoc a r
@[simp] theorem bytes_em (s : ByteArray) : bytesD s = em bD s.data.toList := rfl

theorem i32_of (n : Int) (h0 : 0 ≤ n) (h : n < 2 ^ 31) : IntKind.i32.wrap n = n := by rw [IntKind.wrap_i32]; omega

theorem first_ok (b : UInt8) (r : List UInt8) (h : b.toNat < 128) (c : CS) : FW (env G) 127 [.sl 0 1 (em bD (b :: r))] c = some (.tup [.v (.int .i32 b.toNat), .v (.int .i64 1)], c) := by
  refine FW_Wd [] or127 ef127' rfl (by decide) pl127 ?_
  have hw := i32_of b.toNat (by omega) (by omega)
  have hi : ((b.toNat : Nat) : Int) < 128 := by omega
  simp -implicitDefEqProofs (maxSteps := 10000000) [List.range, List.range.loop, keep_dense, Tryd.f127, em_cons, hi, hw]
theorem call127 (b : UInt8) (r : List UInt8) (h : b.toNat < 128) (k : Nat) (t : TypeId) (c : CS) : callD (env G) (FW (env G)) .pure t 127 [.sl k 1 (em bD (b :: r))] c = some (.tup [.v (.int .i32 b.toNat), .v (.int .i64 1)], c) :=
  (Pu.of (by simp [D.norm]) (first_ok b r h .fresh) ⟨_, rfl, by simp [unmark, unmark1, D.norm]⟩).call

def dec_st (k0 : Nat) (rest : List UInt8) (k : Nat) (out : List Int) (c : CS) : St := ⟨(dense 22 [(0, .sl k0 1 (em bD rest)), (3, .sl k 1 (em rD out))]), c⟩
def runesOf (l : List UInt8) : List Int := l.map fun b => (b.toNat : Int)
theorem dec_loop (l : List UInt8) (hl : l.length ≤ 2 ^ 20) (ha : ∀ b ∈ l, b.toNat < 128) (s : St) (hs : s.keep fi95 2 = dec_st 0 l 1 [] .fresh) :
    ∃ ex s', loopW (env G) fi95 (loopAt [] Tryd.f95 0) s = some (ex, s') ∧ (ex = .exit 0 ∧ isD 22 s'.sl ∧ ∃ k, s'.sl.getD 3 .dead = .sl k 1 (em rD (runesOf l))) := by
  refine loop_rule (R := fun ex s' => ex = .exit 0 ∧ isD 22 s'.sl ∧ ∃ k, s'.sl.getD 3 .dead = .sl k 1 (em rD (runesOf l)))
    (fun n s => ∃ rest done k0 k c, rest.length = n ∧ l = done ++ rest ∧ App c k done.length ∧ s.keep fi95 2 = dec_st k0 rest k (runesOf done) c) ?_ l.length s ⟨l, [], 0, 1, .fresh, rfl, rfl, .fresh, hs⟩
  rintro n s ⟨rest, done, k0, k, c, hn, rfl, hA, hs⟩
  cases rest with
  | nil =>
    simp -implicitDefEqProofs (maxSteps := 10000000) [List.range, List.range.loop, keep_dense, Tryd.f95, hs, dec_st]
  | cons b r =>
    have hb : b.toNat < 128 := ha b (by simp)
    have hcall := fun k t c => call127 (G := G) b r hb k t c
    simp only [List.length_append, List.length_cons] at hl hn
    have r1 : (done.length + 1) * 5 ≤ maxRoom := by unfold maxRoom; omega
    have hd : (runesOf done).length = done.length := by simp [runesOf]
    have hp : 0 < r.length + 1 := by omega
    simp -implicitDefEqProofs (maxSteps := 10000000) [List.range, List.range.loop, keep_dense, Tryd.f95, hs, dec_st, hcall, app21, hA, r1, hd]
    exact ⟨r.length, by omega, r, rfl, done ++ [b], by simp, 0, appK c k, by simpa using hA.self, by simp [runesOf, em_cons]⟩

theorem dec_ok (l : List UInt8) (hl : l.length ≤ 2 ^ 20) (ha : ∀ b ∈ l, b.toNat < 128) : ∃ d c', FW (env G) 95 [.sl 0 1 (em bD l)] .fresh = some (d, c') ∧ ∃ k, d = .sl k 1 (em rD (runesOf l)) := by
  refine FW_Pd [] or95 ef95' rfl (by decide) pl95 ?_
  simp -implicitDefEqProofs (maxSteps := 10000000) [List.range, List.range.loop, keep_dense, Tryd.f95]
  refine W_loop (dec_loop l hl ha _ ?_) ?_ ?_
  · simp -implicitDefEqProofs (maxSteps := 10000000) [List.range, List.range.loop, keep_dense, dec_st]
  · simp -implicitDefEqProofs (maxSteps := 10000000) [List.range, List.range.loop, keep_dense, Tryd.f95]
  · rintro ex ⟨sl, cs⟩ ⟨rfl, ⟨q, rfl⟩, k, h3⟩
    rw [dense_getD _ _ _ (by decide)] at h3
    simp -implicitDefEqProofs (maxSteps := 10000000) [List.range, List.range.loop, keep_dense, h3]
theorem call95 (l : List UInt8) (hl : l.length ≤ 2 ^ 20) (ha : ∀ b ∈ l, b.toNat < 128) (k : Nat) (t : TypeId) (c : CS) : callD (env G) (FW (env G)) .pure t 95 [.sl k 1 (em bD l)] c = some (.sl 0 1 (em rD (runesOf l)), c) := by
  obtain ⟨d, c', h, q, rfl⟩ := dec_ok (G := G) l hl ha
  exact (Pu.of (by simp [D.norm]) h (out_slU (by simp))).call

/-- A sign that is written as it is. -/
def Plain (r : Int) : Prop := 32 ≤ r ∧ r ≤ 126 ∧ r ≠ 92

theorem ctl_ok (r : Int) (h : Plain r) (c : CS) : FW (env G) 98 [.v (.int .i32 r)] c = some (.v (.bool false), c) := by
  obtain ⟨h1, h2, h3⟩ := h
  have a1 : 0 ≤ r := by omega
  have a2 : ¬ r < 32 := by omega
  have a3 : ¬ 127 ≤ r := by omega
  have a4 : ¬ r = 8232 := by omega
  have a5 : ¬ r = 8233 := by omega
  refine FW_Wd [] or98 ef98' rfl (by decide) pl98 ?_
  simp -implicitDefEqProofs (maxSteps := 10000000) [List.range, List.range.loop, keep_dense, Tryd.f98, wantD, a1, a2, a3, a4, a5]
theorem call98 (r : Int) (h : Plain r) (t : TypeId) (c : CS) : callD (env G) (FW (env G)) .pure t 98 [.v (.int .i32 r)] c = some (.v (.bool false), c) :=
  (Pu.of (nargs := [.v (.int .i32 r)]) rfl (ctl_ok r h .fresh) out_v).call

theorem say_ok (p : Nat) (rs at' bad : D) (k : Nat) (out : List (Int × Int)) (hl : out.length ≤ 2 ^ 20) (kind r : Int) (c : CS) (hA : App c k out.length) (hp : c.hp p = some ⟨151, [rs, at', .sl k 2 (em tD out), bad]⟩) :
    FW (env G) 96 [.ptr p 0, .v (.int .i64 kind), .v (.int .i32 r)] c = some (.tup [], (appC c k (out.length + 1)).put p ⟨151, [rs, at', .sl (appK c k) 2 (em tD (out ++ [(kind, r)])), bad]⟩) := by
  refine FW_Wd [] or96 ef96' rfl (by decide) pl96 ?_
  have r1 : (out.length + 1) * 17 ≤ maxRoom := by unfold maxRoom; omega
  simp -implicitDefEqProofs (maxSteps := 10000000) [List.range, List.range.loop, keep_dense, Tryd.f96, hp, app103, hA, r1]

def tokOf (r : Int) : Int × Int := if r = 32 then (2, 0) else (1, r)
def ScanC (rs : List Int) (i k : Nat) (c : CS) : Prop := App c k i ∧ c.hp 2 = some ⟨151, [.sl 0 1 (em rD rs), .v (.int .i64 i), .sl k 2 (em tD ((rs.map tokOf).take i)), .sl 1 3 []]⟩
def scan_st (c : CS) : St := ⟨(dense 74 [(4, .ptr 2 0)]), c⟩

theorem scan_loop (rs : List Int) (hl : rs.length ≤ 2 ^ 20) (ha : ∀ r ∈ rs, Plain r) (k : Nat) (c : CS) (hC : ScanC rs 0 k c) (s : St) (hs : s.keep fi57 2 = scan_st c) :
    ∃ ex s', loopW (env G) fi57 (loopAt [] Tryd.f57 0) s = some (ex, s') ∧ (ex = .exit 0 ∧ isD 74 s'.sl ∧ s'.sl.getD 4 .dead = .ptr 2 0 ∧ ∃ k, ScanC rs rs.length k s'.cs) := by
  refine loop_rule (R := fun ex s' => ex = .exit 0 ∧ isD 74 s'.sl ∧ s'.sl.getD 4 .dead = .ptr 2 0 ∧ ∃ k, ScanC rs rs.length k s'.cs)
    (fun n s => ∃ i k c, i + n = rs.length ∧ ScanC rs i k c ∧ s.keep fi57 2 = scan_st c) ?_ rs.length s ⟨0, k, c, by omega, hC, hs⟩
  rintro n s ⟨i, k, c, hi, ⟨hA, h2⟩, hs⟩
  by_cases hlt : i < rs.length
  · have hpl := ha rs[i] (by simp)
    have hpl' := hpl
    obtain ⟨p1, p2, p3⟩ := hpl'
    have hw2 : IntKind.i64.wrap ((i : Int) + 1) = (i + 1 : Nat) := by rw [i64_of _ (by omega) (by omega)]; simp
    have hlen : ((rs.map tokOf).take i).length = i := by simp; omega
    have hlt' : i < (rs.map tokOf).length := by simpa using hlt
    have hst : (rs.map tokOf).take (i + 1) = (rs.map tokOf).take i ++ [tokOf rs[i]] := by
      rw [List.take_add_one, List.getElem?_eq_getElem hlt']; simp
    have hctl := fun t c => call98 (G := G) rs[i] hpl t c
    have p9 : ¬ rs[i] = 9 := by omega
    have hsay := fun kind r => say_ok (G := G) 2 (.sl 0 1 (em rD rs)) (.v (.int .i64 ((i : Int) + 1))) (.sl 1 3 []) k ((rs.map tokOf).take i) (by omega) kind r
      (c.put 2 ⟨151, [.sl 0 1 (em rD rs), .v (.int .i64 ((i : Int) + 1)), .sl k 2 (em tD ((rs.map tokOf).take i)), .sl 1 3 []]⟩) (by rw [hlen]; simpa using hA) (by simp)
    rw [hlen] at hsay
    have fin : ∀ (c' : CS) (kk : Nat), App c' kk i → ∃ m, m < n ∧ ∃ j, j + m = rs.length ∧ ∃ x, ScanC rs j x ((appC c' kk (i + 1)).put 2 ⟨151, [.sl 0 1 (em rD rs), .v (.int .i64 ((i : Int) + 1)), .sl (appK c' kk) 2 (em tD ((rs.map tokOf).take i ++ [tokOf rs[i]])), .sl 1 3 []]⟩) := by
      intro c' kk hA'
      exact ⟨n - 1, by omega, i + 1, by omega, appK c' kk, by simpa using hA'.self, by simp [hst]⟩
    have hA' : App (c.put 2 ⟨151, [.sl 0 1 (em rD rs), .v (.int .i64 ((i : Int) + 1)), .sl k 2 (em tD ((rs.map tokOf).take i)), .sl 1 3 []]⟩) k i := by simpa using hA
    by_cases h32 : rs[i] = 32
    · have e : tokOf rs[i] = (2, 0) := by simp [tokOf, h32]
      have := fin _ _ hA'
      rw [e] at this
      simp -implicitDefEqProofs (maxSteps := 10000000) [List.range, List.range.loop, keep_dense, Tryd.f57, hs, scan_st, hlt, h2, h32, hw2, hsay]
      exact this
    · have e : tokOf rs[i] = (1, rs[i]) := by simp [tokOf, h32]
      have := fin _ _ hA'
      rw [e] at this
      simp -implicitDefEqProofs (maxSteps := 10000000) [List.range, List.range.loop, keep_dense, Tryd.f57, hs, scan_st, hlt, h2, h32, p9, p3, hctl, hw2, hsay]
      exact this
  · obtain rfl : i = rs.length := by omega
    simp -implicitDefEqProofs (maxSteps := 10000000) [List.range, List.range.loop, keep_dense, Tryd.f57, hs, scan_st, h2]
    exact ⟨k, hA, h2⟩

theorem scan_ok (s : ByteArray) (hl : s.size ≤ 2 ^ 20) (ha : ∀ b ∈ s.data.toList, Plain b.toNat) : ∃ d c', FW (env G) 57 [.v (.string s)] .fresh = some (d, c') ∧ ∃ k, d = .tup [.sl k 2 (em tD ((runesOf s.data.toList).map tokOf)), .sl 1 3 []] := by
  have hl' : s.data.toList.length ≤ 2 ^ 20 := by rw [Array.length_toList]; exact hl
  have hdec := fun k t c => call95 (G := G) s.data.toList hl' (fun b hb => by obtain ⟨h1, h2, h3⟩ := ha b hb; omega) k t c
  refine FW_Pd [] or57 ef57' rfl (by decide) pl57 ?_
  simp -implicitDefEqProofs (maxSteps := 10000000) [List.range, List.range.loop, keep_dense, Tryd.f57, hdec]
  refine W_loop (scan_loop (runesOf s.data.toList) (by rw [runesOf, List.length_map]; exact hl') (fun r hr => ?_) 1 (CS.fresh.new ⟨151, [.sl 0 1 (em rD (runesOf s.data.toList)), .v (.int .i64 0), .sl 1 2 [], .sl 1 3 []]⟩) ⟨⟨Nat.le_of_ble_eq_true rfl, .inl rfl⟩, rfl⟩ _ ?_) ?_ ?_
  · obtain ⟨b, hb, rfl⟩ := List.mem_map.1 hr
    exact ha b hb
  · simp -implicitDefEqProofs (maxSteps := 10000000) [List.range, List.range.loop, keep_dense, scan_st]
  · simp -implicitDefEqProofs (maxSteps := 10000000) [List.range, List.range.loop, keep_dense, Tryd.f57]
  · rintro ex ⟨sl, cs⟩ ⟨rfl, ⟨q, rfl⟩, h4, k, hA, h2⟩
    rw [dense_getD _ _ _ (by decide)] at h4
    rw [List.take_of_length_le (by simp)] at h2
    replace h2 : cs.hp 2 = _ := h2
    simp -implicitDefEqProofs (maxSteps := 10000000) [List.range, List.range.loop, keep_dense, h4, h2]
theorem call57 (s : ByteArray) (hl : s.size ≤ 2 ^ 20) (ha : ∀ b ∈ s.data.toList, Plain b.toNat) (t : TypeId) (c : CS) : callD (env G) (FW (env G)) .pure t 57 [.v (.string s)] c = some (.tup [.sl 0 2 (em tD ((runesOf s.data.toList).map tokOf)), .sl 0 3 []], c) := by
  obtain ⟨d, c', h, q, rfl⟩ := scan_ok (G := G) s hl ha
  exact (Pu.of (nargs := [.v (.string s)]) rfl h ⟨_, rfl, by simp [unmark, unmark1, D.norm, D.normL]⟩).call

theorem line_ok (hG : G 0 = some gapD) (f : Int × Int) (s : ByteArray) (hl : s.size ≤ 2 ^ 20) (ha : ∀ b ∈ s.data.toList, Plain b.toNat) : ∃ d c', FW (env G) 18 [fD f, .v (.string s)] .fresh = some (d, c') ∧
    d = .tup [gL (setT f ((runesOf s.data.toList).map tokOf)).1, fD (setT f ((runesOf s.data.toList).map tokOf)).2, .sl 0 3 []] := by
  have h1 := fun t c => call57 (G := G) s hl ha t c
  have hl' : s.data.toList.length ≤ 2 ^ 20 := by rw [Array.length_toList]; exact hl
  have h2 := fun k t c => call15 (G := G) hG f ((runesOf s.data.toList).map tokOf) (by rw [List.length_map, runesOf, List.length_map]; exact hl') k t c
  simp only [fD] at h2
  refine FW_Pd [] or18 ef18' rfl (by decide) pl18 ?_
  simp -implicitDefEqProofs (maxSteps := 10000000) [List.range, List.range.loop, keep_dense, Tryd.f18, fD, h1, h2]
theorem call18 (hG : G 0 = some gapD) (f : Int × Int) (s : ByteArray) (hl : s.size ≤ 2 ^ 20) (ha : ∀ b ∈ s.data.toList, Plain b.toNat) (t : TypeId) (c : CS) : callD (env G) (FW (env G)) .pure t 18 [fD f, .v (.string s)] c =
    some (.tup [gL (setT f ((runesOf s.data.toList).map tokOf)).1, fD (setT f ((runesOf s.data.toList).map tokOf)).2, .sl 0 3 []], c) := by
  obtain ⟨d, c', h, rfl⟩ := line_ok (G := G) hG f s hl ha
  exact (Pu.of (nargs := [fD f, .v (.string s)]) (by simp [D.norm]) h ⟨_, rfl, by simp [unmark, unmark1, D.norm, D.normL, gL, fD]⟩).call
end Go.Proofs.YtgilkaonmhlifaaDoor.Dn
