/- How arguments of the project's types read as values; the variables that the rows lay. -/
import Derived.Test.YtgilkaonmhlifaaDoorMjS3
import Derived.Test.YtgilkaonmhlifaaDoorRows
namespace Go.Proofs.YtgilkaonmhlifaaDoor.Dn
open Go.Den Go.ChangeShapes Go.WideShapes Go.RowKit
set_option maxRecDepth 100000

theorem own : ownKnob Tryd.prog.godebug = none := by kernel_rfl
theorem laidOut : laidOutB Tryd.prog = true := by kernel_rfl
theorem cells5 : Tryd.prog.cellsOf 5 = 1 := by kernel_rfl
theorem cells21 : Tryd.prog.cellsOf 21 = 1 := by kernel_rfl
theorem cells35 : Tryd.prog.cellsOf 35 = 2 := by kernel_rfl
theorem cells26 : Tryd.prog.cellsOf 26 = 1 := by kernel_rfl
theorem gGap : Tryd.prog.globalNamed "flong/styles.gap" = some 0 := by kernel_rfl
theorem gGapT : (Tryd.prog.globals[0]?).map (·.type) = some 35 := by kernel_rfl
theorem mixed : Tryd.prog.follows .mixedOrders = true := by kernel_rfl

section
variable {H : Type} {enc : TypeId × Value → H} {E : Env} {W : World}

theorem bulkW_agg2 {a b : DataW H} : bulkW (.agg [a, b]) = bulkW a + bulkW b + 1 := by simp [bulkW, bulkWs]

/-- A glyph's cells. -/
def glyC (p : Int × Int) : List D := [.v (.int .i32 p.1), .v (.int .u8 p.2)]
theorem rd_glyph (N : Nat) : Rd enc Tryd.prog E W N 35 glyC := by
  intro n hn cs d ps h
  obtain ⟨y0, y1, m, hx, hl, h0, h1⟩ := trod_struct2 Tryd.underlying35 h
  obtain ⟨rfl, rfl⟩ := Prod.mk.inj hx
  simp only [cells21, cells5, cells35] at h0 h1 hl
  obtain ⟨a, ha, ha2, ha3⟩ := DataW.trod_int Tryd.underlying21 h0
  obtain ⟨b, hb, hb2, hb3⟩ := DataW.trod_int Tryd.underlying5 h1
  subst ha2 hb2
  refine ⟨(a, b), ?_, by simp [glyC, D.bulkL, D.bulk, bulkW, bulkWs], by simp [glyC, D.wfL, D.wfB, ha3, hb3]⟩
  have e : cs = [.int .i32 a, .int .u8 b] := by
    match cs, hl with
    | [x, y], _ => simp at ha hb; rw [ha, hb]
  rw [e]
  exact VL.app (a := [_]) (us := [_]) (VL.one (.v rfl)) (VL.one (.v rfl))

theorem gD_bulk (p : Int × Int) : (gD p).bulk = D.bulkL (glyC p) := by simp [gD, glyC, D.bulk]
theorem gD_wf (p : Int × Int) : (gD p).wfB = D.wfL (glyC p) := by simp [gD, glyC, D.wfB]

theorem rd_glyphs (N : Nat) : Rd enc Tryd.prog E W (N + 1) 26 (fun l : List (Int × Int) => [.sl 0 2 (l.map gD)]) :=
  rd_slice gD Tryd.underlying26 cells35 (by decide) (fun _ => rfl) gD_bulk gD_wf (rd_glyph N)

/-- An argument of glyphs. -/
theorem arg_glyphs {v : Value} {d : DataW H} {p : List MemPlace} (h : DataW.Trod enc Tryd.prog W 0 (fun _ => true) true 26 v d p) (hv : v.cells.toList = [v]) :
    ∃ l : List (Int × Int), V E .fresh (Gh.start W) W (gL l) v ∧ l.length + 1 ≤ bulkW d := by
  obtain ⟨fuel, h⟩ := h
  obtain ⟨l, h1, h2, h3⟩ := rd_glyphs (enc := enc) (E := E) (W := W) fuel fuel (by omega) _ _ _ h
  refine ⟨l, ?_, ?_⟩
  · have := h1.2 0 _ rfl
    rw [hv] at this
    exact this
  · have e : D.bulkL [.sl 0 2 (l.map gD)] = (l.map fun x => (gD x).bulk).sum + 1 := by simp [D.bulkL, D.bulk, bulkL_map]
    have e2 : (l.map fun x => (gD x).bulk).sum = 2 * l.length := by
      clear h1 h2 h3 e
      induction l with
      | nil => rfl
      | cons x l ih => simp only [List.map_cons, List.sum_cons, ih, List.length_cons]; simp [gD, D.bulk, D.bulkL]; omega
    rw [e, e2] at h2
    omega

/-- A variable that holds a glyph. -/
theorem cells_glyph {base : Nat} {sp : Nat → Bool} {held : Bool} {fuel : Nat} {cs : List Value} {r s : Int} {p : List MemPlace}
    (h : DataW.trod enc Tryd.prog W base sp held fuel 35 cs = some (.agg [.lit (.int .i32 r), .lit (.int .u8 s)], p)) : cs = [.int .i32 r, .int .u8 s] := by
  obtain ⟨y0, y1, m, hx, hl, h0, h1⟩ := trod_struct2 Tryd.underlying35 h
  have hx1 := (Prod.mk.inj hx).1
  simp only [DataW.agg.injEq, List.cons.injEq, and_true] at hx1
  simp only [cells21, cells5, cells35] at h0 h1 hl
  obtain ⟨a, ha, ha2, ha3⟩ := DataW.trod_int Tryd.underlying21 h0
  obtain ⟨b, hb, hb2, hb3⟩ := DataW.trod_int Tryd.underlying5 h1
  subst ha2 hb2
  obtain ⟨e1, e2⟩ := hx1
  simp only [DataW.lit.injEq, Lit.int.injEq, true_and] at e1 e2
  subst e1 e2
  match cs, hl with
  | [x, y], _ => simp at ha hb; rw [ha, hb]

theorem gap_inv {cs : Array Value} (hv : W.var? Tryd.prog "flong/styles.gap" = some cs) (hc : cs.toList = [.int .i32 32, .int .u8 0]) : Inv (env gT) .fresh (Gh.start W) W := by
  have hcs : cs = #[.int .i32 32, .int .u8 0] := by apply Array.toList_inj.1; simpa using hc
  subst hcs
  refine start_inv fun n ds hn => ?_
  have hn' : gT n = some ds := hn
  unfold gT at hn'
  split at hn'
  · obtain rfl := Option.some.inj hn'
    have h0 : W.cell? ⟨0, 0, none⟩ = some (.int .i32 32) := World.var?_cell gGap hv 0
    have h1 : W.cell? ⟨0, 1, none⟩ = some (.int .u8 0) := World.var?_cell gGap hv 1
    have hlt : 0 < W.heap.size := by
      cases hh : W.heap[0]? with
      | none => simp [World.cell?, hh] at h0
      | some o => exact (Array.getElem?_eq_some_iff.1 hh).1
    refine ⟨hlt, fun j d hj => ?_⟩
    match j with
    | 0 => simp [gapD] at hj; subst hj; exact ⟨_, h0, .v rfl⟩
    | 1 => simp [gapD] at hj; subst hj; exact ⟨_, h1, .v rfl⟩
    | j + 2 => simp [gapD] at hj
  · simp at hn'

theorem gT_one : ∀ n cs, gT n = some cs → ∀ d ∈ cs, D.cells d = [d] ∧ d.norm = d := by
  intro n cs h
  unfold gT at h
  split at h
  · obtain rfl := Option.some.inj h; simp [gapD, D.norm]
  · simp at h
theorem gT_ok : EnvOk Tryd.prog (env gT) := env_ok mixed gT_one

mutual
/-- Our count is no more than the rows'. -/
theorem bulk_le {H : Type} : ∀ d : DataW H, bulkW d ≤ Rows.uptoBulk d
  | .lit l => by cases l <;> simp [bulkW, Rows.uptoBulk]
  | .nil => by simp [bulkW, Rows.uptoBulk]
  | .ptr d => by have := bulk_le d; simp only [bulkW, Rows.uptoBulk]; omega
  | .slice e s => by have := bulks_le e; have := bulks_le s; simp only [bulkW, Rows.uptoBulk]; omega
  | .agg l => by have := bulks_le l; simp only [bulkW, Rows.uptoBulk]; omega
  | .iface _ d => by have := bulk_le d; simp only [bulkW, Rows.uptoBulk]; omega
  | .map _ => by simp [bulkW, Rows.uptoBulk]
  | .held _ => by simp [bulkW, Rows.uptoBulk]
theorem bulks_le {H : Type} : ∀ l : List (DataW H), bulkWs l ≤ Rows.uptoBulkAll l
  | [] => by simp [bulkWs, Rows.uptoBulkAll]
  | d :: l => by have := bulk_le d; have := bulks_le l; simp only [bulkWs, Rows.uptoBulkAll]; omega
end
theorem small {H : Type} {l : List (DataW H)} (hk : Rows.uptoSmall H l = true) : bulkWs l ≤ 1048576 := by
  have h : Rows.uptoBulkAll l ≤ 1048576 := of_decide_eq_true hk
  exact Nat.le_trans (bulks_le l) h

end
end Go.Proofs.YtgilkaonmhlifaaDoor.Dn
