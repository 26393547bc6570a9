/- MdocJoins: the contract of its bounded form. Condition: what is read is of bulk at most 1048576. -/
import Derived.Test.YtgilkaonmhlifaaDoorMjM4
import Derived.Test.YtgilkaonmhlifaaDoorMjS4
import Derived.Test.YtgilkaonmhlifaaDoorCards
import Derived.Test.YtgilkaonmhlifaaDoorTie
import Derived.WalkKit
import Derived.ProofKit
import Derived.OpenShut
import Derived.Deep.DeepHandedRow
import Derived.Lib.LaidTab
import Derived.Shelf.Vars
namespace Go.Proofs.YtgilkaonmhlifaaDoor.Dn
open Go.Den Go.ChangeShapes Go.WideShapes Go.RowKit Go.ChangeAt
set_option maxRecDepth 100000

theorem cells4 : Tryd.prog.cellsOf 4 = 1 := by kernel_rfl
theorem cells54 : Tryd.prog.cellsOf 54 = 3 := by kernel_rfl
section
variable {H : Type} {enc : TypeId × Value → H} {E : Env} {W : World}

theorem trod_struct3 {P : Program} {base : Nat} {spare : Nat → Bool} {held : Bool} {t : TypeId} {f0 f1 f2 : Field} {fuel : Nat} {cs : List Value} {x : DataW H × List MemPlace} (ht : P.underlying t = some (.struct #[f0, f1, f2])) (h : DataW.trod enc P W base spare held fuel t cs = some x) :
    ∃ y0 y1 y2 n, x = (.agg [y0.1, y1.1, y2.1], y0.2 ++ (y1.2 ++ y2.2)) ∧ cs.length = P.cellsOf t ∧ DataW.trod enc P W base spare held n f0.type ((cs.drop f0.offset).take (P.cellsOf f0.type)) = some y0 ∧
      DataW.trod enc P W base spare held n f1.type ((cs.drop f1.offset).take (P.cellsOf f1.type)) = some y1 ∧ DataW.trod enc P W base spare held n f2.type ((cs.drop f2.offset).take (P.cellsOf f2.type)) = some y2 := by
  obtain ⟨xs, n, _, rfl, hl, hlen, hf⟩ := DataW.trod_struct ht h
  match xs, hlen with
  | [y0, y1, y2], _ => exact ⟨y0, y1, y2, n, by simp, hl, by simpa using hf 0 f0 rfl, by simpa using hf 1 f1 rfl, by simpa using hf 2 f2 rfl⟩

/-- A piece's cells. -/
def pcC (p : Pc) : List D := [gL p.1, .v (.bool p.2.1), .v (.bool p.2.2)]
theorem rd_piece (N : Nat) : Rd enc Tryd.prog E W N 54 pcC := by
  intro n hn cs d ps h
  obtain ⟨y0, y1, y2, m, hx, hl, h0, h1, h2⟩ := trod_struct3 Tryd.underlying54 h
  obtain ⟨rfl, rfl⟩ := Prod.mk.inj hx
  simp only [cells26, cells4, cells54] at h0 h1 h2 hl
  obtain ⟨l, a1, a2, a3⟩ := rd_glyphs (enc := enc) (E := E) (W := W) m m (by omega) _ _ _ h0
  obtain ⟨b, b1, b2, b3⟩ := rd_bool (enc := enc) (E := E) (W := W) (N := m) Tryd.underlying4 m (Nat.le_refl _) _ _ _ h1
  obtain ⟨e, e1, e2, e3⟩ := rd_bool (enc := enc) (E := E) (W := W) (N := m) Tryd.underlying4 m (Nat.le_refl _) _ _ _ h2
  have hd : D.bulkL (pcC (l, b, e)) = D.bulkL [.sl 0 2 (l.map gD)] + (D.bulkL [.v (.bool b)] + D.bulkL [.v (.bool e)]) := by
    simp only [pcC, gL, D.bulkL, em]; omega
  refine ⟨(l, b, e), ?_, ?_, ?_⟩
  · match cs, hl with
    | [x, y, z], _ => exact VL.app (a := [_]) (us := [_]) a1 (VL.app (a := [_]) (us := [_]) b1 e1)
  · have a2' : D.bulkL [.sl 0 2 (l.map gD)] ≤ bulkW y0.1 := a2
    have b2' : D.bulkL [.v (.bool b)] ≤ bulkW y1.1 := b2
    have e2' : D.bulkL [.v (.bool e)] ≤ bulkW y2.1 := e2
    rw [hd]; simp only [bulkW, bulkWs]; omega
  · have : D.wfL (pcC (l, b, e)) = (D.wfL [.sl 0 2 (l.map gD)] && (D.wfL [.v (.bool b)] && D.wfL [.v (.bool e)])) := by
      simp only [pcC, gL, D.wfL, em, Bool.and_true]
    rw [this, a3, b3, e3]; rfl
theorem pD_bulk (p : Pc) : (pD p).bulk = D.bulkL (pcC p) := by simp [pD, pcC, D.bulk]
theorem pD_wf (p : Pc) : (pD p).wfB = D.wfL (pcC p) := by simp [pD, pcC, D.wfB]
theorem rd_pieces (N : Nat) : Rd enc Tryd.prog E W (N + 1) 52 (fun l : List Pc => [.sl 0 3 (l.map pD)]) :=
  rd_slice pD Tryd.underlying52 cells54 (by decide) (fun _ => rfl) pD_bulk pD_wf (rd_piece N)

theorem gL_bulk (l : List (Int × Int)) : (gL l).bulk = 2 * l.length + 1 := by
  have e : (gL l).bulk = (l.map fun x => (gD x).bulk).sum + 1 := by
    have : (gL l).bulk = D.bulkL (l.map gD) + 1 := by simp [gL, D.bulk, em]
    rw [this, bulkL_map]
  rw [e]
  induction l with
  | nil => rfl
  | cons x l ih =>
    have ih' := ih (by simp [gL, D.bulk, em, bulkL_map])
    simp only [List.map_cons, List.sum_cons, List.length_cons]
    have : (gD x).bulk = 2 := by simp [gD, D.bulk, D.bulkL]
    omega

/-- An argument of pieces. -/
theorem arg_pieces {v : Value} {d : DataW H} {p : List MemPlace} (h : DataW.Trod enc Tryd.prog W 0 (fun _ => true) true 52 v d p) (hv : v.cells.toList = [v]) :
    ∃ l : List Pc, V E .fresh (Gh.start W) W (.sl 0 3 (em pD l)) v ∧ pTot l ≤ bulkW d ∧ l.length ≤ bulkW d := by
  obtain ⟨fuel, h⟩ := h
  obtain ⟨l, h1, h2, h3⟩ := rd_pieces (enc := enc) (E := E) (W := W) fuel fuel (by omega) _ _ _ h
  have e : D.bulkL [.sl 0 3 (l.map pD)] = (l.map fun x => (pD x).bulk).sum + 1 := by simp [D.bulkL, D.bulk, bulkL_map]
  have e2 : pTot l ≤ (l.map fun x => (pD x).bulk).sum ∧ l.length ≤ (l.map fun x => (pD x).bulk).sum := by
    clear h1 h2 h3 e
    induction l with
    | nil => simp [pTot]
    | cons x l ih =>
      have hx : (pD x).bulk = 2 * x.1.length + 1 + 2 := by
        rw [pD_bulk]; simp only [pcC, D.bulkL, gL_bulk]; simp [D.bulk]
      have hp : pTot (x :: l) = 1 + x.1.length + pTot l := by simp [pTot]
      simp only [List.map_cons, List.sum_cons, List.length_cons]
      omega
  rw [e] at h2
  refine ⟨l, ?_, by omega, by omega⟩
  have := h1.2 0 _ rfl
  rw [hv] at this
  exact this

theorem gM_inv {m : Int} {cs : Array Value} (hv : W.var? Tryd.prog "flong/styles.gap" = some cs) (hc : cs.toList = [.int .i32 32, .int .u8 0]) (hm : W.cell? ⟨4, 0, none⟩ = some (.int .i64 m)) : Inv (env (gM m)) .fresh (Gh.start W) W := by
  have hcs : cs = #[.int .i32 32, .int .u8 0] := by apply Array.toList_inj.1; simpa using hc
  subst hcs
  have hin : ∀ {b : Nat} {x : Value}, W.cell? ⟨b, 0, none⟩ = some x → b < W.heap.size := by
    intro b x h
    cases hh : W.heap[b]? with
    | none => simp [World.cell?, hh] at h
    | some o => exact (Array.getElem?_eq_some_iff.1 hh).1
  refine start_inv fun n ds hn => ?_
  have hn' : gM m n = some ds := hn
  unfold gM at hn'
  split at hn'
  · obtain rfl := Option.some.inj hn'
    have h0 : W.cell? ⟨0, 0, none⟩ = some (.int .i32 32) := World.var?_cell gGap hv 0
    have h1 : W.cell? ⟨0, 1, none⟩ = some (.int .u8 0) := World.var?_cell gGap hv 1
    refine ⟨hin h0, fun j d hj => ?_⟩
    match j with
    | 0 => simp [gapD] at hj; subst hj; exact ⟨_, h0, .v rfl⟩
    | 1 => simp [gapD] at hj; subst hj; exact ⟨_, h1, .v rfl⟩
    | j + 2 => simp [gapD] at hj
  · obtain rfl := Option.some.inj hn'
    refine ⟨hin hm, fun j d hj => ?_⟩
    match j with
    | 0 => simp at hj; subst hj; exact ⟨_, hm, .v rfl⟩
    | j + 1 => simp at hj
  · simp at hn'
theorem gM_one (m : Int) : ∀ n cs, gM m n = some cs → ∀ d ∈ cs, D.cells d = [d] ∧ d.norm = d := by
  intro n cs h
  unfold gM at h
  split at h
  · obtain rfl := Option.some.inj h; simp [gapD, D.norm]
  · obtain rfl := Option.some.inj h; simp [D.norm]
  · simp at h
theorem gM_ok (m : Int) : EnvOk Tryd.prog (env (gM m)) := env_ok mixed (gM_one m)
end

theorem mjoins_contract (H : Type) (enc : TypeId × Value → H) (W : World) (base : Nat) (args : Array Value) (ds gs : List (DataW H)) (before : List MemPlace)
    (hval : ∀ (j : Nat) t v, Tryd.f6.params[j]? = some t → args[j]? = some v → Value.okWide Tryd.prog W .any base t v)
    (hW : DataW.Whole enc Tryd.prog Tryd.f6.params.toList Rows.mdocJoinsSpec.vars false W args.toList ds gs before) (hk : Rows.uptoSmall H (ds ++ gs) = true) (hL : laidMetH Tryd.prog Rows.mdocJoinsUptoRow.laid W) (hsh : W.ShapedOpen Tryd.prog) :
    Calls Tryd.prog 6 args W fun e W' => ∃ v, e = .returned v ∧ Rows.mdocJoinsSpec.post enc Tryd.prog Tryd.f6 false true false false W args v W' := by
  have hW' := hW
  obtain ⟨p, q, hA0, hV, _, _, _⟩ := hW
  have hA : DataW.TrodAll enc Tryd.prog W 0 (fun _ => true) true [52] args.toList ds p := hA0
  obtain ⟨v0, d0, rfl, rfl, h0⟩ := trodAll_one hA
  obtain ⟨rfl, rfl⟩ := trodVars_none hV
  have hb := small hk
  simp only [List.append_nil, bulkWs] at hb
  obtain ⟨a0, n0, c0, rfl⟩ := okWide_slice Tryd.underlying52 (hval 0 52 v0 rfl rfl)
  obtain ⟨l0, x0, b0, b0'⟩ := arg_pieces (E := env (gM 0)) h0 rfl
  obtain ⟨m, hm⟩ := cell_of_shapedOpen_int (P := Tryd.prog) (g := 4) (t := 3) (zero := #[.int .i64 0]) hsh (of_decide_eq_true (by kernel_rfl)) (by kernel_rfl) rfl (by kernel_rfl) (by kernel_rfl) Tryd.underlying3
  obtain ⟨l0, x0, b0, b0'⟩ := arg_pieces (E := env (gM m)) h0 rfl
  obtain ⟨ps, ⟨g1, t1, cs1, fu1, pp1, q1, e11, e12, e13, e14, ⟨g2, t2, cs2, fu2, pp2, q2, e21, e22, e23, e24, ⟨g3, t3, cs3, fu3, pp3, q3, e31, e32, e33, e34, _, _⟩, _⟩, _⟩, _⟩ := (show laidMet Tryd.prog Rows.mdocJoinsUptoRow.laid W from hL)
  obtain rfl := Option.some.inj (gGap.symm.trans e31)
  obtain rfl := Option.some.inj (gGapT.symm.trans e32)
  have hI := gM_inv (m := m) e33 (cells_glyph e34) hm
  obtain ⟨d, c', hF, rfl⟩ := mjoins_ok (known26 m) l0 (by omega) (by omega)
  refine (law_calls (gM_ok m) hF (vs := [_]) hI rfl (fun i d hi => ?_)).mono ?_
  · match i with
    | 0 => simp at hi; subst hi; exact x0
    | i + 1 => simp at hi
  · rintro e W' ⟨rfl, hB⟩
    exact ⟨_, rfl, law_post laidOut hW' rfl rfl rfl Tryd.underlying4 (by kernel_rfl) hB⟩
end Go.Proofs.YtgilkaonmhlifaaDoor.Dn
