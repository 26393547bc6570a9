/- flonglaw11.MdocJoins answers true. -/
import Derived.Test.YtgilkaonmhlifaaDoorMjM1
namespace Go.Proofs.YtgilkaonmhlifaaDoor.Dn
open Go.Den
set_option maxRecDepth 100000
set_option maxHeartbeats 8000000

/-! The plain law. -/
structure BS where
  all : List (Int × Int)
  last : Pc
  first : Bool
  blanks : Nat
def bStep (s : BS) (p : Pc) : BS :=
  if p.1 = [] then s else ⟨s.all ++ p.1, p, false, if s.first = false ∧ s.last.2.2 = false ∧ p.2.1 = false then s.blanks + 1 else s.blanks⟩
def bAll (l : List Pc) : BS := l.foldl bStep ⟨[], ([], false, false), true, 0⟩
theorem bAll_take (l : List Pc) (i : Nat) (h : i < l.length) : bAll (l.take (i + 1)) = bStep (bAll (l.take i)) l[i] := by
  unfold bAll
  rw [List.take_add_one, List.getElem?_eq_getElem h, List.foldl_append]; rfl

def noBlank (l : List (Int × Int)) : Prop := ∀ g ∈ l, g.1 ≠ 32
def inkB (g : Int × Int) : Bool := !decide (g.1 = 32)
theorem ink_of {l : List (Int × Int)} (h : noBlank l) : l.filter inkB = l := by
  apply List.filter_eq_self.2
  intro g hg
  simp [inkB, h g hg]

structure Good (out : List (Int × Int)) (b : Bool) (s : BS) : Prop where
  ink : out.filter inkB = s.all
  len : out.length = s.all.length + s.blanks
  sticks : b = (s.first || s.last.2.2)
  fst : s.first = true → out = []
  ends : s.first = false → out ≠ [] ∧ (∀ g, out.head? = some g → g.1 ≠ 32) ∧ (∀ g, out.getLast? = some g → g.1 ≠ 32)
  set : ∀ g ∈ out, g.1 = 32 → g.2 = 0

theorem good_step {out : List (Int × Int)} {b : Bool} {s : BS} (h : Good out b s) (p : Pc) (hp : noBlank p.1) : Good (jStep (out, b) p).1 (jStep (out, b) p).2 (bStep s p) := by
  unfold jStep bStep
  by_cases h0 : p.1 = []
  · rw [if_pos h0, if_pos h0]; exact h
  · rw [if_neg h0, if_neg h0]
    obtain ⟨h1, h2, h3, h4, h5, h6⟩ := h
    have hl : ∀ x : List (Int × Int), ∀ g, (x ++ p.1).getLast? = some g → g.1 ≠ 32 := fun x g hg => by
      rw [List.getLast?_append, List.getLast?_eq_some_getLast h0, Option.some_or] at hg
      obtain rfl := Option.some.inj hg
      exact hp _ (List.getLast_mem h0)
    by_cases hc : b = false ∧ p.2.1 = false
    · have hf : s.first = false ∧ s.last.2.2 = false := by
        have := h3.symm.trans hc.1
        simpa using this
      have hout := h5 hf.1
      simp only [if_pos hc]
      have hc' : s.first = false ∧ s.last.2.2 = false ∧ p.2.1 = false := ⟨hf.1, hf.2, hc.2⟩
      refine ⟨?_, ?_, ?_, ?_, ?_, ?_⟩
      · simp only [List.filter_append, h1, ink_of hp]
        simp [inkB]
      · simp only [List.length_append, h2, if_pos hc', List.length_singleton]; omega
      · simp
      · intro h; simp at h
      · intro _
        refine ⟨by simp [h0], fun g hg => ?_, hl _⟩
        rw [List.append_assoc, List.head?_append, List.head?_eq_some_head hout.1, Option.some_or] at hg
        exact hout.2.1 g (by rw [List.head?_eq_some_head hout.1]; exact hg)
      · intro g hg h32
        simp only [List.mem_append, List.mem_singleton] at hg
        rcases hg with (hg | hg) | hg
        · exact h6 g hg h32
        · rw [hg]
        · exact absurd h32 (hp g hg)
    · simp only [if_neg hc, List.append_nil]
      have hc' : ¬ (s.first = false ∧ s.last.2.2 = false ∧ p.2.1 = false) := by
        rintro ⟨a1, a2, a3⟩
        exact hc ⟨by rw [h3, a1, a2]; rfl, a3⟩
      refine ⟨?_, ?_, ?_, ?_, ?_, ?_⟩
      · simp only [List.filter_append, h1, ink_of hp]
      · simp only [List.length_append, h2, if_neg hc']; omega
      · simp
      · intro h; simp at h
      · intro _
        refine ⟨by simp [h0], fun g hg => ?_, hl _⟩
        by_cases ho : out = []
        · subst ho
          rw [List.nil_append] at hg
          exact hp g (List.mem_of_head? hg)
        · rw [List.head?_append, List.head?_eq_some_head ho, Option.some_or, ← List.head?_eq_some_head ho] at hg
          have : s.first = false := by
            cases hf : s.first with
            | true => exact absurd (h4 hf) ho
            | false => rfl
          exact (h5 this).2.1 g hg
      · intro g hg h32
        rcases List.mem_append.1 hg with hg | hg
        · exact h6 g hg h32
        · exact absurd h32 (hp g hg)

theorem good_all (l : List Pc) (h : ∀ p ∈ l, noBlank p.1) : Good (jAll l).1 (jAll l).2 (bAll l) := by
  have key : ∀ i, i ≤ l.length → Good (jAll (l.take i)).1 (jAll (l.take i)).2 (bAll (l.take i)) := by
    intro i
    induction i with
    | zero => intro _; exact ⟨rfl, rfl, rfl, fun _ => rfl, fun h => by simp [bAll] at h, fun g hg => by simp [jAll] at hg⟩
    | succ i ih =>
      intro hi
      rw [jAll_take l i (by omega), bAll_take l i (by omega)]
      exact good_step (ih (by omega)) _ (h _ (List.getElem_mem _))
  have := key l.length (Nat.le_refl _)
  rwa [List.take_length] at this

/-- What the last loop asks of each glyph. -/
theorem good_at {out : List (Int × Int)} {b : Bool} {s : BS} (h : Good out b s) (i : Nat) (hi : i < out.length) (h32 : out[i].1 = 32) : i ≠ 0 ∧ i + 1 ≠ out.length ∧ out[i].2 = 0 := by
  have hne : out ≠ [] := by intro e; subst e; simp at hi
  have hf : s.first = false := by
    cases hf : s.first with
    | true => exact absurd (h.fst hf) hne
    | false => rfl
  obtain ⟨_, h1, h2⟩ := h.ends hf
  refine ⟨?_, ?_, h.set _ (List.getElem_mem _) h32⟩
  · rintro rfl
    refine h1 out[0] ?_ h32
    rw [List.head?_eq_getElem?, List.getElem?_eq_getElem hi]
  · intro e
    refine h2 out[i] ?_ h32
    rw [List.getLast?_eq_getElem?, ← e, Nat.add_sub_cancel, List.getElem?_eq_getElem hi]
end Go.Proofs.YtgilkaonmhlifaaDoor.Dn
