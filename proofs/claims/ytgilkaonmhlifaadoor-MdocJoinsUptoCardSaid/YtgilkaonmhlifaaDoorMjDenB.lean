/- The interpreter of the code by its content, and its soundness (part 2 of some). Conditions: none beyond those that each theorem states. -/
import Derived.Test.YtgilkaonmhlifaaDoorMjDenA
import Derived.Below
import Derived.Carry
import Derived.ChangeArms
import Derived.ChangeSame
import Derived.ChangeShapes
import Derived.Laws.StructEq
import Derived.Lib.IndexMore
import Derived.Scope
import Derived.Shelf.Abstract
namespace Go.Den
open Go.RowKit
section
variable {P : Program} {E : Env} {c : CS} {g : Gh} {w : World}

theorem Rel.put {s : St} {a : Act} (hR : Rel E g s a w) {c' : CS} {g' : Gh} {w' : World} {d : D} {v : Value} (hv : V E c' g' w' d v) (hI : Inv E c' g' w') (he : Evo g s.cs w g' c' w') (dst : Option Tmp) :
    Rel E g' ({ s with cs := c' }.put dst d) (a.put dst v) w' := by
  cases dst with
  | none => exact ⟨hR.size, fun i d hi => (hR.slot i d hi).mono he, hR.defers, hI⟩
  | some t =>
    refine ⟨by simp [Act.put, St.put, hR.size], fun i e hi => ?_, hR.defers, hI⟩
    simp only [St.put, List.getElem?_set] at hi
    have hs := hR.size
    split at hi
    · rename_i hti
      subst hti
      split at hi
      · rename_i hlt
        obtain rfl := Option.some.inj hi
        have : t < a.tmps.size := by rw [hs]; exact hlt
        show V E c' g' w' d _
        simpa [Act.put, Array.getD_eq_getD_getElem?, this] using hv
      · simp at hi
    · rename_i hti
      have := (hR.slot i e hi).mono he
      show V E c' g' w' e _
      simpa [Act.put, Array.getD_eq_getD_getElem?, Array.getElem?_setIfInBounds, hti] using this

theorem wantD_ok {s : St} {a : Act} (hR : Rel E g s a w) {ops : Array Oper} {o : Oper} {b : Bool} (h : wantD ops o s = some b) : Region.wanted o (yielded ops a.tmps) = b := by
  unfold wantD at h
  unfold Region.wanted
  split at h
  · rename_i hg
    rw [hg]
    exact (Option.some.inj h)
  · rename_i j want hg
    rw [hg]
    simp only
    unfold yielded
    cases hd : (ops[j]?).bind (·.dst) with
    | none => rw [hd] at h; simp at h
    | some t =>
      rw [hd] at h
      simp only [Option.bind_some] at h ⊢
      cases hs : s.sl[t]? with
      | none => rw [hs] at h; simp at h
      | some d =>
        rw [hs] at h
        have hlt : t < a.tmps.size := by rw [hR.size]; exact (List.getElem?_eq_some_iff.1 hs).1
        have hv := hR.slot t d hs
        rw [Array.getD_eq_getD_getElem?, Array.getElem?_eq_getElem hlt] at hv
        simp only [Option.getD_some] at hv
        rw [Array.getElem?_eq_getElem hlt]
        split at h
        · rename_i q heq
          cases heq
          obtain ⟨hq, _⟩ := hv.v_inv
          rw [hq]
          have := Option.some.inj h
          simp only
          rw [← this]
          cases q <;> cases want <;> rfl
        · rename_i vs heq
          cases heq
          obtain ⟨us, hq, _⟩ := hv.tup_inv
          rw [hq]
          obtain rfl := Option.some.inj h
          rfl
        · simp at h

theorem runOps_ok (hE : EnvOk P E) {call : CallF} (hc : CallOk P E call) {fi : FI} {ops : Array Oper} {Q : Exit → Act → World → Prop} {s' : St} :
    ∀ (rest : List Oper) (k : Nat) {g : Gh} {s : St} {a : Act} {w : World}, (∀ j : Nat, rest[j]? = ops[k + j]?) → runOps E fi call ops rest s = some s' → Rel E g s a w →
      (∀ a' w' g', Rel E g' s' a' w' → Evo g s.cs w g' s'.cs w' → Q .normal a' w') → wpOps P ops Q (List.range' k rest.length) a w
  | [], k, g, s, a, w, _, h, hR, hQ => by
    obtain rfl := Option.some.inj h
    exact hQ a w g hR (.refl hR.inv.mb _ _)
  | o :: rest, k, g, s, a, w, hk, h, hR, hQ => by
    have hok : ops[k]? = some o := by have := hk 0; simpa using this.symm
    have hrest : ∀ j : Nat, rest[j]? = ops[k + 1 + j]? := fun j => by have := hk (j + 1); simpa [Nat.add_assoc, Nat.add_comm 1] using this
    show wpOps P ops Q (k :: List.range' (k + 1) rest.length) a w
    simp only [wpOps, hok]
    unfold runOps at h
    split at h
    · simp at h
    · rename_i hw
      have hw' := wantD_ok hR hw
      rw [hw']
      simp only [Bool.false_eq_true, if_false]
      have hR' : Rel E g (s.put o.dst (.tup [])) (a.put o.dst undef) w := hR.put (c' := s.cs) (d := .tup []) (v := undef) (.tup (vs := []) rfl (by simp)) hR.inv (.refl hR.inv.mb _ _) o.dst
      have hcs : (s.put o.dst (.tup [])).cs = s.cs := by cases o.dst <;> rfl
      refine runOps_ok hE hc rest (k + 1) hrest h hR' (fun a' w' g' h1 h2 => hQ a' w' g' h1 (by rw [hcs] at h2; exact h2))
    · rename_i hw
      have hw' := wantD_ok hR hw
      rw [hw']
      simp only [if_true]
      left
      split at h
      · simp at h
      · rename_i d c1 hr
        refine runOp_ok hE hc hR hr (fun v w' g' hv hI he => ?_)
        have hR' := hR.put hv hI he o.dst
        have hcs : ({ s with cs := c1 }.put o.dst d).cs = c1 := by cases o.dst <;> rfl
        exact runOps_ok hE hc rest (k + 1) hrest h hR' (fun a' w'' g'' h1 h2 => hQ a' w'' g'' h1 (he.trans (by rw [hcs] at h2; exact h2)))

theorem keepL_get : ∀ (live : List Nat) (i : Nat) (ds : List D), (keepL live i ds).length = ds.length ∧ ∀ (j : Nat) d, (keepL live i ds)[j]? = some d → d = .dead ∨ ds[j]? = some d
  | _, _, [] => ⟨rfl, by simp [keepL]⟩
  | live, i, e :: ds => by
    obtain ⟨h1, h2⟩ := keepL_get live (i + 1) ds
    refine ⟨by simp [keepL, h1], fun j d hj => ?_⟩
    cases j with
    | zero =>
      simp only [keepL, List.getElem?_cons_zero, Option.some.injEq] at hj
      split at hj
      · right; simp [hj]
      · left; exact hj.symm
    | succ j => simpa using h2 j d (by simpa [keepL] using hj)

theorem Rel.keep {s : St} {a : Act} (hR : Rel E g s a w) (fi : FI) (id : Nat) : Rel E g (s.keep fi id) a w ∧ (s.keep fi id).cs = s.cs := by
  unfold St.keep
  split
  · rename_i live _
    obtain ⟨h1, h2⟩ := keepL_get live 0 s.sl
    refine ⟨⟨by rw [hR.size, h1], fun i d hi => ?_, hR.defers, hR.inv⟩, rfl⟩
    rcases h2 i d hi with h | h
    · subst h; exact .dead
    · exact hR.slot i d h
  · exact ⟨hR, rfl⟩

def Ex.out : Ex → Exit
  | .normal => .normal
  | .exit id => .exit id
  | .ret => .ret

def Post (E : Env) (ex : Ex) (s' : St) (g : Gh) (c : CS) (w : World) : Exit → Act → World → Prop := fun e a' w' => e = ex.out ∧ ∃ g', Rel E g' s' a' w' ∧ Evo g c w g' s'.cs w'

/-- What a region whose order is drawn owes. -/
def DrawOk (P : Program) (E : Env) (draw : Nat → Array Oper → St → Option St) : Prop := ∀ id ops s s', draw id ops s = some s' → ∀ g a w, Rel E g s a w → (Code.region id ops true).wp P (Post E .normal s' g s.cs w) a w

theorem Post.trans {ex : Ex} {s' : St} {g g1 : Gh} {c c1 : CS} {w w1 : World} (h : Evo g c w g1 c1 w1) {e : Exit} {a' : Act} {w' : World} (hp : Post E ex s' g1 c1 w1 e a' w') : Post E ex s' g c w e a' w' := by
  obtain ⟨h1, g', h2, h3⟩ := hp
  exact ⟨h1, g', h2, h.trans h3⟩

theorem den_ok (hE : EnvOk P E) {call : CallF} (hc : CallOk P E call) {draw : Nat → Array Oper → St → Option St} (hd : DrawOk P E draw) {fi : FI} {it : IterF} (hit : ∀ b s r, it b s = some r → ∃ n, iter b n s = some r) :
    ∀ (code : Code) {s : St} {ex : Ex} {s' : St}, den E fi call draw it code s = some (ex, s') → ∀ {g a w}, Rel E g s a w → code.wp P (Post E ex s' g s.cs w) a w := by
  intro code
  induction code with
  | skip =>
    intro s ex s' h g a w hR
    obtain ⟨rfl, rfl⟩ := Prod.mk.inj (Option.some.inj (by simpa [den] using h))
    exact wp_skip ⟨rfl, g, hR, .refl hR.inv.mb _ _⟩
  | label l =>
    intro s ex s' h g a w hR
    obtain ⟨rfl, rfl⟩ := Prod.mk.inj (Option.some.inj (by simpa [den] using h))
    exact wp_label ⟨rfl, g, hR, .refl hR.inv.mb _ _⟩
  | exit id =>
    intro s ex s' h g a w hR
    obtain ⟨rfl, rfl⟩ := Prod.mk.inj (Option.some.inj (by simpa [den] using h))
    exact wp_exit ⟨rfl, g, hR, .refl hR.inv.mb _ _⟩
  | ret =>
    intro s ex s' h g a w hR
    obtain ⟨rfl, rfl⟩ := Prod.mk.inj (Option.some.inj (by simpa [den] using h))
    exact wp_ret ⟨rfl, g, hR, .refl hR.inv.mb _ _⟩
  | region id ops dr =>
    intro s ex s' h g a w hR
    obtain ⟨hR', hcs⟩ := hR.keep fi id
    cases dr with
    | false =>
      simp only [den] at h
      cases hr : runOps E fi call ops ops.toList (s.keep fi id) with
      | none => rw [hr] at h; simp at h
      | some s1 =>
        rw [hr] at h
        obtain ⟨rfl, rfl⟩ := Prod.mk.inj (Option.some.inj h)
        refine wp_region ?_
        have := runOps_ok hE hc (Q := Post E .normal s1 g s.cs w) ops.toList 0 (fun j => by simp) hr hR' (fun a' w' g' h1 h2 => ⟨rfl, g', h1, by rw [hcs] at h2; exact h2⟩)
        rw [List.range_eq_range']
        simpa using this
    | true =>
      simp only [den] at h
      cases hr : draw id ops (s.keep fi id) with
      | none => rw [hr] at h; simp at h
      | some s1 =>
        rw [hr] at h
        obtain ⟨rfl, rfl⟩ := Prod.mk.inj (Option.some.inj h)
        have := hd id ops _ _ hr g a w hR'
        rw [hcs] at this
        exact this
  | seq x y ihx ihy =>
    intro s ex s' h g a w hR
    simp only [den] at h
    refine wp_seq ?_
    split at h
    · rename_i s1 hx
      refine wp_mono (ihx hx hR) ?_
      rintro e a1 w1 ⟨rfl, g1, hR1, he⟩
      exact wp_mono (ihy h hR1) (fun e a' w' hp => hp.trans he)
    · rename_i r hx
      refine wp_mono (ihx h hR) ?_
      rintro e a1 w1 hp
      obtain ⟨rfl, g1, hR1, he⟩ := hp
      cases ex with
      | normal => exact absurd h (hx _)
      | exit id => exact ⟨rfl, g1, hR1, he⟩
      | ret => exact ⟨rfl, g1, hR1, he⟩
  | cond x y z ihy ihz =>
    intro s ex s' h g a w hR
    simp only [den] at h
    split at h
    · rename_i hx
      have := opd_ok hR 0 x
      rw [hx] at this
      exact wp_cond_true this.v_inv.1 (ihy h hR)
    · rename_i hx
      have := opd_ok hR 0 x
      rw [hx] at this
      exact wp_cond_false this.v_inv.1 (ihz h hR)
    · simp at h
  | block id x ih =>
    intro s ex s' h g a w hR
    simp only [den] at h
    refine wp_block ?_
    split at h
    · rename_i j s1 hx
      obtain ⟨rfl, rfl⟩ := Prod.mk.inj (Option.some.inj h)
      refine wp_mono (ih hx hR) ?_
      rintro e a1 w1 ⟨rfl, g1, hR1, he⟩
      simp only [Ex.out, Exit.inBlock]
      split
      · rename_i hj; exact ⟨by simp [hj, Ex.out], g1, hR1, he⟩
      · rename_i hj; exact ⟨by simp [hj, Ex.out], g1, hR1, he⟩
    · rename_i r hx
      refine wp_mono (ih h hR) ?_
      rintro e a1 w1 ⟨rfl, g1, hR1, he⟩
      cases ex with
      | normal => exact ⟨rfl, g1, hR1, he⟩
      | exit j => exact absurd h (hx _ _)
      | ret => exact ⟨rfl, g1, hR1, he⟩
  | loop x ih =>
    intro s ex s' h g a w hR b k cs
    simp only [den] at h
    have key : ∀ (m : Nat) {s : St} {g : Gh} {a : Act} {w : World}, iter (den E fi call draw it x) m s = some (ex, s') → Rel E g s a w →
        ∃ e a' w', Post E ex s' g s.cs w e a' w' ∧ Arrives P (lone (b.at a (.code x :: .inLoop x :: k)) cs w) b k cs e a' w' := by
      intro m
      induction m with
      | zero => intro s g a w h; simp [iter] at h
      | succ m ihm =>
        intro s g a w h hR
        unfold iter at h
        split at h
        · rename_i s1 hx
          obtain ⟨e, a1, w1, ⟨rfl, g1, hR1, he⟩, harr⟩ := ih hx hR b (.inLoop x :: k) cs
          obtain ⟨e, a2, w2, hp, harr2⟩ := ihm h hR1
          exact ⟨e, a2, w2, hp.trans he, .of_steps (Steps.trans harr (.one step_inLoop)) harr2⟩
        · rename_i r hx
          obtain ⟨e, a1, w1, ⟨rfl, g1, hR1, he⟩, harr⟩ := ih h hR b (.inLoop x :: k) cs
          refine ⟨_, a1, w1, ⟨rfl, g1, hR1, he⟩, .pass (x := .inLoop x) rfl (fun _ _ => .inl ?_) harr⟩
          cases ex with
          | normal => exact absurd h (hx _)
          | exit j => simp [Ex.out]
          | ret => simp [Ex.out]
    obtain ⟨n, h⟩ := hit _ _ _ h
    obtain ⟨e, a', w', hq, harr⟩ := key n h hR
    exact ⟨e, a', w', hq, .of_steps (.one step_loop) harr⟩
  | scope x ih =>
    intro s ex s' h g a w hR
    simp only [den] at h
    refine wp_scope_straight (wp_mono (ih h hR) ?_)
    rintro e a1 w1 ⟨rfl, h1⟩
    cases ex <;> exact ⟨rfl, h1⟩
  | _ => intro s ex s' h; simp [den] at h


def rvSem (a : Act) : ResultVar → Sem Value
  | .tmp t => pure (a.tmps.getD t undef)
  | .cell b t => do loadVar t (← asAddr (a.tmps.getD b undef))

theorem resD_ok (hE : EnvOk P E) {s : St} {a : Act} (hR : Rel E g s a w) {q : ResultVar} {d : D} (h : resD E s q = some d) :
    ∃ v, (rvSem a q).run P w = .ok v w ∧ V E s.cs g w d v := by
  cases q with
  | tmp t =>
    obtain rfl := Option.some.inj h
    exact ⟨_, rfl, opd_ok hR 0 (.tmp t)⟩
  | cell b t =>
    simp only [resD] at h
    have hv := opd_ok hR 0 (.tmp b)
    obtain ⟨v, hr, hvv⟩ := loadD_ok hE hR.inv hv h
    refine ⟨v, ?_, hvv⟩
    rw [← hr]
    show (do loadVar t (← asAddr (a.tmps.getD b undef)) : Sem Value).run P w = (Instr.loadAt t (a.tmps.getD b undef)).run P w
    have hp : ∃ ad, a.tmps.getD b undef = .pointer (some ad) := by
      simp only [St.opd, Act.eval] at hv
      generalize a.tmps.getD b undef = y at hv
      unfold loadD at h
      split at h
      · simp at h
      · split at h
        · rename_i hx; rw [hx] at hv; cases hv; exact ⟨_, rfl⟩
        · rename_i hx; rw [hx] at hv; cases hv; exact ⟨_, rfl⟩
        · rename_i hx; rw [hx] at hv; cases hv; exact ⟨_, rfl⟩
        · simp at h
    obtain ⟨ad, hp⟩ := hp
    rw [hp]
    rfl

theorem resL_ok (hE : EnvOk P E) {s : St} {a : Act} (hR : Rel E g s a w) : ∀ (qs : List ResultVar) (ds : List D), resL E s qs = some ds →
    ∃ vs : List Value, (qs.mapM (rvSem a) : Sem (List Value)).run P w = .ok vs w ∧ ds.length = vs.length ∧ ∀ (i : Nat) d, ds[i]? = some d → V E s.cs g w d (vs.getD i undef)
  | [], ds, h => by obtain rfl := Option.some.inj h; exact ⟨[], rfl, rfl, by simp⟩
  | q :: qs, ds, h => by
    unfold resL at h
    split at h
    · rename_i d ds' h1 h2
      obtain rfl := Option.some.inj h
      obtain ⟨v, r1, v1⟩ := resD_ok hE hR h1
      obtain ⟨vs, r2, l2, v2⟩ := resL_ok hE hR qs ds' h2
      refine ⟨v :: vs, ?_, by simp [l2], fun i e hi => ?_⟩
      · simp only [List.mapM_cons, Sem.run_bind, r1, r2, Result.andThen_ok, Sem.run_pure]
      · cases i with
        | zero => simp at hi; subst hi; exact v1
        | succ i => simpa using v2 i e (by simpa using hi)
    · simp at h

theorem results_ok (hE : EnvOk P E) {s : St} {a : Act} (hR : Rel E g s a w) {fi : FI} {fn : Func} (hf : fn.results.toList = fi.res) {d : D} (h : resultsD E fi s = some d) :
    ∃ v, (results fn a.tmps).run P w = .ok v w ∧ V E s.cs g w d v := by
  unfold resultsD at h
  have key : ∀ ds, resL E s fi.res = some ds → ∃ vs : List Value, (fn.results.mapM (rvSem a) : Sem (Array Value)).run P w = .ok vs.toArray w ∧ ds.length = vs.length ∧ ∀ (i : Nat) d, ds[i]? = some d → V E s.cs g w d (vs.getD i undef) := by
    intro ds hds
    obtain ⟨vs, r, l, v⟩ := resL_ok hE hR fi.res ds hds
    refine ⟨vs, ?_, l, v⟩
    rw [Array.mapM_eq_mapM_toList, hf]
    rw [show ∀ m : Sem (List Value), (List.toArray <$> m : Sem (Array Value)) = (do let l ← m; pure l.toArray) from fun _ => rfl]
    simp only [Sem.run_bind, r, Result.andThen_ok, Sem.run_pure]
  have run : ∀ vs : List Value, (fn.results.mapM (rvSem a) : Sem (Array Value)).run P w = .ok vs.toArray w →
      (results fn a.tmps).run P w = .ok (if h : vs.toArray.size = 1 then vs.toArray[0] else .tuple vs.toArray) w := by
    intro vs hvs
    show (do let vs ← (fn.results.mapM (rvSem a) : Sem (Array Value)); pure (if h : vs.size = 1 then vs[0] else .tuple vs) : Sem Value).run P w = _
    simp only [Sem.run_bind, hvs, Result.andThen_ok, Sem.run_pure]
  split at h
  · rename_i d' hds
    obtain rfl := Option.some.inj h
    obtain ⟨vs, r, l, v⟩ := key _ hds
    match vs, l with
    | [x], _ =>
      refine ⟨x, ?_, v 0 d' rfl⟩
      rw [run _ r]; simp
  · rename_i ds hne hds
    obtain rfl := Option.some.inj h
    obtain ⟨vs, r, l, v⟩ := key _ hds
    refine ⟨.tuple vs.toArray, ?_, .tup l v⟩
    rw [run _ r]
    have : ¬ vs.toArray.size = 1 := by
      intro h1
      simp at h1
      rw [← l] at h1
      match ds, h1 with
      | [d], _ => exact hne d rfl
    rw [dif_neg this]
  · simp at h

/-- The whole. -/
theorem F_ok (hE : EnvOk P E) {draw : DrawF} (hd : ∀ fi call, CallOk P E call → DrawOk P E (draw fi call)) : ∀ n, CallOk P E (F E draw n) := by
  intro n
  induction n with
  | zero => intro f args cs r cs' h; simp [F] at h
  | succ n ih =>
    intro f args cs r cs' h
    simp only [F] at h
    split at h
    · rename_i o ho
      exact hE.orc f o ho args cs r cs' h
    split at h
    · simp at h
    · rename_i fi hfi
      split at h
      · rename_i hlen
        obtain ⟨⟨fn, hfn, hbody, hnt, hres, hname⟩, hnp⟩ := hE.fn f fi hfi
        refine ⟨⟨fn, hfn, by rw [hbody]; rfl, hname⟩, fun g w vs hI hl hv => ?_⟩
        have hR : Rel E g ⟨args ++ List.replicate (fi.nt - fi.np) .dead, cs⟩ { tmps := vs.toArray ++ Array.replicate (fn.ntmps - vs.toArray.size) undef, defers := [] } w := by
          refine ⟨by simp [hnt]; omega, fun i d hi => ?_, rfl, hI⟩
          by_cases hia : i < args.length
          · rw [List.getElem?_append_left hia] at hi
            have := hv i d hi
            have e : (vs.toArray ++ Array.replicate (fn.ntmps - vs.toArray.size) undef).getD i undef = vs.getD i undef := by
              rw [Array.getD_eq_getD_getElem?, Array.getElem?_append_left (by simp; omega)]
              simp [List.getD]
            rw [e]; exact this
          · rw [List.getElem?_append_right (by omega)] at hi
            rw [List.getElem?_replicate] at hi
            split at hi
            · obtain rfl := Option.some.inj hi; exact .dead
            · simp at hi
        have fin : ∀ ex s, den E fi (F E draw n) (draw fi (F E draw n)) (fun b s => iter b n s) fi.body ⟨args ++ List.replicate (fi.nt - fi.np) .dead, cs⟩ = some (ex, s) → (ex = .normal ∨ ex = .ret) → (resultsD E fi s).map (fun d => (d, s.cs)) = some (r, cs') →
            Calls P f vs.toArray w fun e w' => ∃ x g', e = .returned x ∧ V E cs' g' w' r x ∧ Inv E cs' g' w' ∧ Evo g cs w g' cs' w' := by
          intro ex s hden hex hr
          cases hrd : resultsD E fi s with
          | none => rw [hrd] at hr; simp at hr
          | some d =>
            rw [hrd] at hr
            obtain ⟨rfl, rfl⟩ := Prod.mk.inj (Option.some.inj hr)
            refine calls_of_wp hfn hbody (wp_mono (den_ok hE ih (hd fi _ ih) (fun b s r h => ⟨n, h⟩) fi.body hden hR) ?_)
            rintro e a' w' ⟨rfl, g', hR', he⟩
            obtain ⟨v, hv1, hv2⟩ := results_ok hE hR' hres hrd
            rcases hex with rfl | rfl
            · exact ⟨hR'.defers, v, hv1, v, g', rfl, hv2, hR'.inv, he⟩
            · exact ⟨hR'.defers, v, hv1, v, g', rfl, hv2, hR'.inv, he⟩
        split at h
        · rename_i s hden; exact fin _ s hden (.inl rfl) h
        · rename_i s hden; exact fin _ s hden (.inr rfl) h
        · simp at h
      · simp at h

end
end Go.Den

namespace Go.Den
open Go.RowKit

/-- Does an operation change the table? -/
def effB (fi : FI) (o : Oper) : Bool := match o.op with
  | .alloc _ | .box .. | .store .. => true
  | .call q => match q.callee with
    | .builtin .append => true
    | .builtin _ => false
    | _ => match fi.mode (o.dst.getD 0) with | .pure | .snap => false | _ => true
  | _ => false

/-- May its answer hang on the table, though it does not change it? -/
def readB (fi : FI) (o : Oper) : Bool := match o.op with
  | .load .. | .indexAddr .. | .slice .. => true
  | .call q => match q.callee with
    | .value _ => match fi.mode (o.dst.getD 0) with | .snap => true | _ => false
    | .builtin _ => false
    | _ => false
  | _ => false

def befOne (look : Nat → Nat) (l : List Edge) : Nat := l.foldl (fun s e => if Region.binds .any e then s ||| 2 ^ e.on ||| look e.on else s) 0

def forceN {α : Type} (n : Nat) (k : Nat → α) : α := match n with | 0 => k 0 | m + 1 => k (m + 1)
theorem forceN_eq {α : Type} (n : Nat) (k : Nat → α) : forceN n k = k n := by cases n <;> rfl

/-- What lies ahead of each operation: numbers' bits, the last operation's first. -/
def befL : List Oper → List Nat → List Nat
  | [], acc => acc
  | o :: os, acc => forceN (befOne (fun i => if i < acc.length then acc.getD (acc.length - 1 - i) 0 else 0) o.after.toList) fun v => befL os (v :: acc)

def disB (ops : Array Oper) (fi : FI) (oi oj : Oper) : Bool :=
  !(effB fi oi && effB fi oj) && (match oi.dst with | some t => !(oj.looksAt ops).contains t && oj.dst != some t | none => true) && (match oj.dst with | some t => !(oi.looksAt ops).contains t | none => true)

/-- One operation (the number j, its bits b) against those ahead of it. -/
def pairsAt (ops : Array Oper) (fi : FI) (oj : Oper) (j b : Nat) : List Oper → Nat → Option (List (Nat × Nat))
  | [], _ => some []
  | oi :: os, i => if b.testBit i then pairsAt ops fi oj j b os (i + 1) else
    if disB ops fi oi oj then
      match pairsAt ops fi oj j b os (i + 1) with
      | some ps => some ((if readB fi oi && effB fi oj then [(i, j)] else []) ++ (if readB fi oj && effB fi oi then [(j, i)] else []) ++ ps)
      | none => none
    else none

def pairsL (ops : Array Oper) (fi : FI) (bs : List Nat) : List Oper → Nat → Option (List (Nat × Nat))
  | [], _ => some []
  | oj :: os, j => if oj.after.toList.all fun e => !Region.binds .any e || decide (e.on < j) then
      match pairsAt ops fi oj j (bs.getD (ops.size - 1 - j) 0) (ops.toList.take j) 0, pairsL ops fi bs os (j + 1) with
      | some p, some q => some (p ++ q)
      | _, _ => none
    else none

/-- none: the order is of matter; else: the readers that are free against what changes the table. -/
def drawPairs (fi : FI) (ops : Array Oper) : Option (List (Nat × Nat)) := pairsL ops fi (befL ops.toList []) ops.toList 0

/-- The state ahead of each operation, and what it answered (none: it was not to be done). -/
def trace (E : Env) (fi : FI) (call : CallF) (ops : Array Oper) : List Oper → St → Option (List (St × Option D) × St)
  | [], s => some ([], s)
  | o :: os, s => match wantD ops o s with
    | none => none
    | some false => match trace E fi call ops os (s.put o.dst (.tup [])) with
      | some (l, s') => some ((s, none) :: l, s')
      | none => none
    | some true => match runOp E fi call o s with
      | none => none
      | some (d, c) => match trace E fi call ops os ({ s with cs := c }.put o.dst d) with
        | some (l, s') => some ((s, some d) :: l, s')
        | none => none

def stAt (l : List (St × Option D)) (fin : St) (k : Nat) : St := ((l[k]?).map (·.1)).getD fin
def anAt (l : List (St × Option D)) (k : Nat) : Option D := (l[k]?).bind (·.2)

/-- The reader i answers the same ahead of j (behind it, if j is the later one). -/
def Stable (E : Env) (fi : FI) (call : CallF) (ops : Array Oper) (st : Nat → St) (an : Nat → Option D) (p : Nat × Nat) : Prop :=
  ∀ oi d, ops[p.1]? = some oi → an p.1 = some d → (an p.2).isSome = true →
    ∃ c, runOp E fi call oi { st p.1 with cs := (st (if p.2 < p.1 then p.2 else p.2 + 1)).cs } = some (d, c)

open Classical in
/-- A region whose order is drawn. -/
noncomputable def drawRun (E : Env) : DrawF := fun fi call _ ops s => match drawPairs fi ops with
  | none => none
  | some [] => runOps E fi call ops ops.toList s
  | some ps => match trace E fi call ops ops.toList s with
    | some (l, s') => if ∀ p ∈ ps, Stable E fi call ops (stAt l s') (anAt l) p then some s' else none
    | none => none

section
variable {E : Env} {fi : FI} {call : CallF} {ops : Array Oper}

theorem trace_of_runOps : ∀ (os : List Oper) (s s' : St), runOps E fi call ops os s = some s' → ∃ l, trace E fi call ops os s = some (l, s')
  | [], s, s', h => ⟨[], by obtain rfl := Option.some.inj h; rfl⟩
  | o :: os, s, s', h => by
    unfold runOps at h
    split at h
    · simp at h
    · rename_i hw
      obtain ⟨l, hl⟩ := trace_of_runOps os _ _ h
      exact ⟨(s, none) :: l, by unfold trace; rw [hw]; simp only [hl]⟩
    · rename_i hw
      split at h
      · simp at h
      · rename_i d c hr
        obtain ⟨l, hl⟩ := trace_of_runOps os _ _ h
        exact ⟨(s, some d) :: l, by unfold trace; rw [hw]; simp only [hr, hl]⟩

def StepOk (E : Env) (fi : FI) (call : CallF) (ops : Array Oper) (o : Oper) (s s' : St) (an : Option D) : Prop :=
  (wantD ops o s = some false ∧ an = none ∧ s' = s.put o.dst (.tup [])) ∨ (∃ d c, wantD ops o s = some true ∧ runOp E fi call o s = some (d, c) ∧ an = some d ∧ s' = { s with cs := c }.put o.dst d)

theorem trace_spec : ∀ (os : List Oper) (s s' : St) l, trace E fi call ops os s = some (l, s') →
    stAt l s' 0 = s ∧ stAt l s' os.length = s' ∧ ∀ k o, os[k]? = some o → StepOk E fi call ops o (stAt l s' k) (stAt l s' (k + 1)) (anAt l k)
  | [], s, s', l, h => by
    obtain ⟨rfl, rfl⟩ := Prod.mk.inj (Option.some.inj h)
    exact ⟨rfl, rfl, by simp⟩
  | o :: os, s, s', l, h => by
    have shift : ∀ (x : St × Option D) l k, stAt (x :: l) s' (k + 1) = stAt l s' k := fun x l k => by simp [stAt]
    have shiftA : ∀ (x : St × Option D) l k, anAt (x :: l) (k + 1) = anAt l k := fun x l k => by simp [anAt]
    unfold trace at h
    split at h
    · simp at h
    · rename_i hw
      split at h
      · rename_i l1 s1 ht
        obtain ⟨rfl, rfl⟩ := Prod.mk.inj (Option.some.inj h)
        obtain ⟨h1, h2, h3⟩ := trace_spec os _ _ _ ht
        refine ⟨rfl, by rw [List.length_cons, shift]; exact h2, fun k o' ho => ?_⟩
        cases k with
        | zero =>
          obtain rfl := Option.some.inj ho
          exact .inl ⟨hw, rfl, by rw [shift]; exact h1⟩
        | succ k => rw [shift, shift, shiftA]; exact h3 k o' ho
      · simp at h
    · rename_i hw
      split at h
      · simp at h
      · rename_i d c hr
        split at h
        · rename_i l1 s1 ht
          obtain ⟨rfl, rfl⟩ := Prod.mk.inj (Option.some.inj h)
          obtain ⟨h1, h2, h3⟩ := trace_spec os _ _ _ ht
          refine ⟨rfl, by rw [List.length_cons, shift]; exact h2, fun k o' ho => ?_⟩
          cases k with
          | zero =>
            obtain rfl := Option.some.inj ho
            exact .inr ⟨d, c, hw, hr, rfl, by rw [shift]; exact h1⟩
          | succ k => rw [shift, shift, shiftA]; exact h3 k o' ho
        · simp at h

/-! ### What an operation looks at -/
theorem opd_congr {s s' : St} (z : Nat) (x : Operand) (h : ∀ t, x = .tmp t → s.sl.getD t .dead = s'.sl.getD t .dead) : s'.opd z x = s.opd z x := by
  cases x with
  | tmp t => exact (h t rfl).symm
  | _ => rfl

theorem argL_congr {s s' : St} : ∀ (xs : List Operand) (ts : List TypeId), (∀ t, Operand.tmp t ∈ xs → s.sl.getD t .dead = s'.sl.getD t .dead) → argL E s' ts xs = argL E s ts xs
  | [], _, _ => rfl
  | x :: xs, ts, h => by
    unfold argL
    rw [argL_congr xs ts.tail (fun t ht => h t (List.mem_cons_of_mem _ ht)), opd_congr _ x (fun t ht => h t (by simp [ht]))]

theorem runOp_congr {o : Oper} {s s' : St} (h : ∀ t, Operand.tmp t ∈ o.op.operands.toList → s.sl.getD t .dead = s'.sl.getD t .dead) :
    runOp E fi call o s' = runOp E fi call o { s with cs := s'.cs } := by
  have hp : ∀ z x, x ∈ o.op.operands.toList → s'.opd z x = ({ s with cs := s'.cs } : St).opd z x := fun z x hx =>
    opd_congr (s := { s with cs := s'.cs }) z x (fun t ht => h t (ht ▸ hx))
  obtain ⟨dst, op, ty, gd, af, po⟩ := o
  have ho : ∀ (x : Option Operand) z, (∀ y ∈ x, y ∈ Op.operands op) → x.map (s'.opd z) = x.map (({ s with cs := s'.cs } : St).opd z) := fun x z hx => by
    cases x with
    | none => rfl
    | some y => simp only [Option.map_some]; rw [hp z y (by simpa using hx y rfl)]
  have hm : ∀ (xs : List (Nat × Operand)), (∀ q ∈ xs, q.2 ∈ (Op.operands op).toList) → xs.map (fun q => (q.1, s'.opd 0 q.2)) = xs.map (fun q => (q.1, ({ s with cs := s'.cs } : St).opd 0 q.2)) := fun xs hx =>
    List.map_congr_left (fun q hq => by rw [hp 0 q.2 (hx q hq)])
  have hl : ∀ (xs : List Operand) z, (∀ x ∈ xs, x ∈ (Op.operands op).toList) → xs.map (s'.opd z) = xs.map (({ s with cs := s'.cs } : St).opd z) := fun xs z hx =>
    List.map_congr_left (fun q hq => hp z q (hx q hq))
  unfold runOp
  cases op with
  | build t ps => simp only; rw [hm ps.toList (fun q hq => by simp only [Op.operands, List.mem_map]; exact ⟨q, hq, rfl⟩)]
  | buildSlice t n ps => simp only; rw [hm ps.toList (fun q hq => by simp only [Op.operands, List.mem_map]; exact ⟨q, hq, rfl⟩)]
  | makeFunc f first caps =>
    cases f with
    | func g => simp only; rw [hl caps.toList _ (fun q hq => by simp [Op.operands]; right; simpa using hq)]
    | _ => rfl
  | slice t x lo hi mx =>
    simp only
    rw [hp _ x (by simp [Op.operands]), ho lo _ (fun y hy => by simp [Op.operands]; simp at hy; simp [hy]), ho hi _ (fun y hy => by simp [Op.operands]; simp at hy; simp [hy]), ho mx _ (fun y hy => by simp [Op.operands]; simp at hy; simp [hy])]
  | call q =>
    have ha : ∀ ts, argL E s' ts q.args.toList = argL E { s with cs := s'.cs } ts q.args.toList := fun ts =>
      argL_congr (s := { s with cs := s'.cs }) _ _ (fun t ht => h t (by simp only [Op.operands, Call.operands]; cases q.callee <;> simp <;> simp at ht <;> simp [ht]))
    obtain ⟨cal, args, ts⟩ := q
    cases cal with
    | builtin b => simp only; rw [ha]
    | value f => simp only; rw [ha, hp _ f (by simp [Op.operands, Call.operands])]
    | _ => rfl
  | binOp b t x y yt =>
    simp only
    rw [hp _ x (by simp [Op.operands])]
    have hy := hp (elemZ E ty) y (by simp [Op.operands])
    cases hx : ({ s with cs := s'.cs } : St).opd (elemZ E ty) x with
    | sl k z l => cases l <;> split <;> simp_all
    | _ => simp only; rw [hy]
  | _ =>
    simp only
    try (simp [Op.operands] at hp)
    try (first | rfl | (simp [hp]; done))

/-- What does not change the table leaves it. -/
theorem runOp_quiet {o : Oper} {s : St} {d : D} {c : CS} (hf : effB fi o = false) (h : runOp E fi call o s = some (d, c)) : c = s.cs := by
  obtain ⟨dst, op, ty, gd, af, po⟩ := o
  unfold effB at hf
  unfold runOp at h
  cases op with
  | call q =>
    obtain ⟨cal, args, ts⟩ := q
    cases cal with
    | builtin b =>
      simp only at h hf
      unfold builtinD at h
      split at h
      all_goals first | (simp at hf; done) | skip
      all_goals (repeat' split at h)
      all_goals first | (simp at h; done) | (simp at h; exact h.2.symm)
    | value f =>
      simp only at h hf
      split at h
      · unfold callD at h
        split at hf
        · rename_i hm
          rw [hm] at h
          simp only [Option.map_eq_some_iff, Prod.mk.injEq] at h
          obtain ⟨_, _, _, h⟩ := h
          exact h.symm
        · rename_i hm
          rw [hm] at h
          simp only at h
          split at h
          · simp only [Option.map_eq_some_iff, Prod.mk.injEq] at h
            obtain ⟨_, _, _, h⟩ := h
            exact h.symm
          · simp at h
        · simp at hf
      · simp at h
    | _ => simp at h
  | alloc => simp at hf
  | box => simp at hf
  | store => simp at hf
  | makeFunc f first caps =>
    cases f with
    | func g =>
      simp only at h
      split at h
      · simp at h; exact h.2.symm
      · simp at h
    | _ => simp at h
  | _ =>
    simp only at h
    repeat' split at h
    all_goals first
      | (simp at h; done)
      | (simp only [Option.map_eq_some_iff, Prod.mk.injEq] at h; obtain ⟨_, _, _, h⟩ := h; exact h.symm)
      | (simp at h; exact h.2.symm)

/-- What neither changes the table nor reads it answers the same at every table. -/
theorem runOp_free {o : Oper} {s : St} {d : D} {c : CS} (hf : effB fi o = false) (hr : readB fi o = false) (h : runOp E fi call o s = some (d, c)) (c1 : CS) : runOp E fi call o { s with cs := c1 } = some (d, c1) := by
  have hop : ∀ z x, ({ s with cs := c1 } : St).opd z x = s.opd z x := fun z x => by cases x <;> rfl
  have hopf : ∀ z, ({ s with cs := c1 } : St).opd z = s.opd z := fun z => funext (hop z)
  have hal : ∀ ts xs, argL E { s with cs := c1 } ts xs = argL E s ts xs := fun ts xs => argL_congr (s' := { s with cs := c1 }) (s := s) xs ts (fun _ _ => rfl)
  obtain ⟨dst, op, ty, gd, af, po⟩ := o
  unfold effB at hf
  unfold readB at hr
  unfold runOp at h ⊢
  cases op with
  | call q =>
    obtain ⟨cal, args, ts⟩ := q
    cases cal with
    | builtin b =>
      simp only [hal] at h hf ⊢
      unfold builtinD at h ⊢
      split at h
      all_goals first | (simp at hf; done) | skip
      all_goals (repeat' split at h)
      all_goals first | (simp at h; done) | skip
      all_goals (obtain ⟨rfl, rfl⟩ := Prod.mk.inj (Option.some.inj h))
      all_goals simp_all
      all_goals omega
    | value f =>
      simp only [hal, hop] at h hf hr ⊢
      split at h
      · rename_i hfn
        skip
        unfold callD at h ⊢
        split at hf
        · rename_i hm
          rw [hm] at h ⊢
          simp only [Option.map_eq_some_iff, Prod.mk.injEq] at h ⊢
          obtain ⟨r, h1, h2, _⟩ := h
          exact ⟨r, h1, h2, trivial⟩
        · rename_i hm
          rw [hm] at hr
          simp at hr
        · simp at hf
      · simp at h
    | _ => simp at h
  | alloc => simp at hf
  | box => simp at hf
  | store => simp at hf
  | load => simp at hr
  | indexAddr => simp at hr
  | slice => simp at hr
  | makeFunc f first caps =>
    cases f with
    | func g =>
      simp only [hopf] at h ⊢
      split at h
      · simp_all
      · simp at h
    | _ => simp at h
  | _ =>
    simp only [hop, hopf] at h ⊢
    repeat' split at h
    all_goals first
      | (simp at h; done)
      | (simp only [Option.map_eq_some_iff, Prod.mk.injEq] at h ⊢; obtain ⟨x, h1, h2, _⟩ := h; exact ⟨x, h1, h2, trivial⟩)
      | (simp_all; done)
      | skip


end
end Go.Den

namespace Go.Den
open Go.RowKit

def Closed (ops : Array Oper) (L : Nat → Bool) : Prop := ∀ (j : Nat) o, ops[j]? = some o → L j = true → ∀ e ∈ o.after.toList, Region.binds .any e = true → L e.on = true

/-- Whoever has all that j waits for has i. -/
def Bef (ops : Array Oper) (j i : Nat) : Prop := ∀ L, Closed ops L → ∀ o, ops[j]? = some o → (∀ e ∈ o.after.toList, Region.binds .any e = true → L e.on = true) → L i = true

theorem befOne_spec (look : Nat → Nat) (i : Nat) : ∀ (l : List Edge) (s : Nat),
    (l.foldl (fun s e => if Region.binds .any e then s ||| 2 ^ e.on ||| look e.on else s) s).testBit i = true → s.testBit i = true ∨ ∃ e ∈ l, Region.binds .any e = true ∧ (e.on = i ∨ (look e.on).testBit i = true)
  | [], s, h => .inl h
  | e :: l, s, h => by
    rw [List.foldl_cons] at h
    rcases befOne_spec look i l _ h with h | ⟨e', he, hb⟩
    · by_cases hb : Region.binds .any e = true
      · rw [if_pos hb] at h
        simp only [Nat.testBit_or, Bool.or_eq_true, Nat.testBit_two_pow, decide_eq_true_eq] at h
        rcases h with (h | h) | h
        · exact .inl h
        · exact .inr ⟨e, List.mem_cons_self, hb, .inl h⟩
        · exact .inr ⟨e, List.mem_cons_self, hb, .inr h⟩
      · rw [if_neg hb] at h; exact .inl h
    · exact .inr ⟨e', List.mem_cons_of_mem _ he, hb⟩

def BefAcc (ops : Array Oper) (acc : List Nat) : Prop := ∀ k i, k < acc.length → (acc.getD (acc.length - 1 - k) 0).testBit i = true → Bef ops k i

theorem befL_spec {ops : Array Oper} : ∀ (os : List Oper) (acc : List Nat), (∀ k : Nat, os[k]? = ops[acc.length + k]?) → BefAcc ops acc →
    (befL os acc).length = acc.length + os.length ∧ BefAcc ops (befL os acc)
  | [], acc, _, h => ⟨rfl, h⟩
  | o :: os, acc, hk, h => by
    unfold befL
    rw [forceN_eq]
    have h0 : ops[acc.length]? = some o := by have := hk 0; simpa using this.symm
    have := befL_spec os (befOne (fun i => if i < acc.length then acc.getD (acc.length - 1 - i) 0 else 0) o.after.toList :: acc) (fun k => by have := hk (k + 1); simpa [Nat.add_assoc, Nat.add_comm 1] using this) (by
      intro k i hlt hb
      by_cases hka : k < acc.length
      · refine h k i hka ?_
        have e : (befOne (fun i => if i < acc.length then acc.getD (acc.length - 1 - i) 0 else 0) o.after.toList :: acc).length - 1 - k = (acc.length - 1 - k) + 1 := by simp; omega
        rw [e, List.getD_cons_succ] at hb
        exact hb
      · have : k = acc.length := by simp at hlt; omega
        subst this
        simp only [List.length_cons, Nat.add_sub_cancel, Nat.sub_self, List.getD_cons_zero] at hb
        rcases befOne_spec (fun i => if i < acc.length then acc.getD (acc.length - 1 - i) 0 else 0) i o.after.toList 0 hb with hb | ⟨e, he, hbd, hb⟩
        · simp at hb
        · intro L hL o' ho' hall
          obtain rfl := Option.some.inj (h0.symm.trans ho')
          have hon := hall e he hbd
          rcases hb with hb | hb
          · exact hb ▸ hon
          · split at hb
            · rename_i hlt'
              have hlt2 : e.on < ops.size := by
                have := (Array.getElem?_eq_some_iff.1 h0).1
                omega
              exact h e.on i hlt' hb L hL _ (Array.getElem?_eq_getElem hlt2) (fun e' he' hb' => hL e.on _ (Array.getElem?_eq_getElem hlt2) hon e' he' hb')
            · simp at hb)
    refine ⟨by rw [this.1]; simp; omega, this.2⟩

/-- What the check of a region's text gives. -/
structure Ord (ops : Array Oper) (fi : FI) (ps : List (Nat × Nat)) : Prop where
  back : ∀ (j : Nat) oj, ops[j]? = some oj → ∀ e ∈ oj.after.toList, Region.binds .any e = true → e.on < j
  ord : ∀ (i j : Nat) oi oj, i < j → ops[i]? = some oi → ops[j]? = some oj → Bef ops j i ∨ disB ops fi oi oj = true
  st : ∀ (i j : Nat) oi oj, i ≠ j → ops[i]? = some oi → ops[j]? = some oj → readB fi oi = true → effB fi oj = true → (j < i ∧ Bef ops i j) ∨ (i < j ∧ Bef ops j i) ∨ (i, j) ∈ ps

theorem pairsAt_spec {ops : Array Oper} {fi : FI} {oj : Oper} {j b : Nat} : ∀ (os : List Oper) (i : Nat) (ps : List (Nat × Nat)), pairsAt ops fi oj j b os i = some ps →
    ∀ (k : Nat) oi, os[k]? = some oi → b.testBit (i + k) = true ∨ (disB ops fi oi oj = true ∧ (readB fi oi = true → effB fi oj = true → (i + k, j) ∈ ps) ∧ (readB fi oj = true → effB fi oi = true → (j, i + k) ∈ ps))
  | [], i, ps, _, k, oi, h => by simp at h
  | o :: os, i, ps, h, k, oi, hk => by
    unfold pairsAt at h
    split at h
    · rename_i hb
      cases k with
      | zero => exact .inl (by simpa using hb)
      | succ k =>
        have := pairsAt_spec os (i + 1) ps h k oi (by simpa using hk)
        rwa [Nat.add_assoc, Nat.add_comm 1] at this
    · split at h
      · rename_i hd
        split at h
        · rename_i qs hq
          obtain rfl := Option.some.inj h
          cases k with
          | zero =>
            obtain rfl := Option.some.inj hk
            refine .inr ⟨hd, fun h1 h2 => ?_, fun h1 h2 => ?_⟩
            · simp [h1, h2]
            · simp [h1, h2]
          | succ k =>
            have := pairsAt_spec os (i + 1) qs hq k oi (by simpa using hk)
            rw [Nat.add_assoc, Nat.add_comm 1] at this
            refine this.imp id (fun ⟨h1, h2, h3⟩ => ⟨h1, fun a b => List.mem_append_right _ (h2 a b), fun a b => List.mem_append_right _ (h3 a b)⟩)
        · simp at h
      · simp at h

theorem pairsL_spec {ops : Array Oper} {fi : FI} {bs : List Nat} : ∀ (os : List Oper) (j : Nat) (ps : List (Nat × Nat)), pairsL ops fi bs os j = some ps →
    ∀ (k : Nat) oj, os[k]? = some oj → (∀ e ∈ oj.after.toList, Region.binds .any e = true → e.on < j + k) ∧ ∃ p, pairsAt ops fi oj (j + k) (bs.getD (ops.size - 1 - (j + k)) 0) (ops.toList.take (j + k)) 0 = some p ∧ ∀ q ∈ p, q ∈ ps
  | [], j, ps, _, k, oj, h => by simp at h
  | o :: os, j, ps, h, k, oj, hk => by
    unfold pairsL at h
    split at h
    · rename_i hall
      split at h
      · rename_i p q hp hq
        obtain rfl := Option.some.inj h
        cases k with
        | zero =>
          obtain rfl := Option.some.inj hk
          refine ⟨fun e he hb => ?_, p, hp, fun q hq => List.mem_append_left _ hq⟩
          have := List.all_eq_true.1 hall e he
          simpa [hb] using this
        | succ k =>
          have := pairsL_spec os (j + 1) q hq k oj (by simpa using hk)
          rw [Nat.add_assoc, Nat.add_comm 1] at this
          obtain ⟨h1, p', h2, h3⟩ := this
          exact ⟨h1, p', h2, fun q hq => List.mem_append_right _ (h3 q hq)⟩
      · simp at h
    · simp at h

theorem drawPairs_spec {ops : Array Oper} {fi : FI} {ps : List (Nat × Nat)} (h : drawPairs fi ops = some ps) : Ord ops fi ps := by
  have hb := befL_spec (ops := ops) ops.toList [] (fun k => by simp) (by intro k i hk; simp at hk)
  have hs := fun (j : Nat) oj (hj : ops[j]? = some oj) => pairsL_spec ops.toList 0 ps h j oj (by simpa using hj)
  have bef : ∀ (j i : Nat) oj, ops[j]? = some oj → ((befL ops.toList []).getD (ops.size - 1 - j) 0).testBit i = true → Bef ops j i := fun j i oj hj hb' => by
    have hlt := (Array.getElem?_eq_some_iff.1 hj).1
    refine hb.2 j i (by rw [hb.1]; simpa using hlt) ?_
    rw [hb.1]; simpa using hb'
  have key : ∀ (i j : Nat) oi oj, i < j → ops[i]? = some oi → ops[j]? = some oj → Bef ops j i ∨ (disB ops fi oi oj = true ∧ (readB fi oi = true → effB fi oj = true → (i, j) ∈ ps) ∧ (readB fi oj = true → effB fi oi = true → (j, i) ∈ ps)) := by
    intro i j oi oj hij hi hj
    obtain ⟨_, p, hp, hsub⟩ := hs j oj hj
    simp only [Nat.zero_add] at hp
    have := pairsAt_spec _ 0 p hp i oi (by rw [List.getElem?_take]; simp [hij]; simpa using hi)
    simp only [Nat.zero_add] at this
    rcases this with h1 | ⟨h1, h2, h3⟩
    · exact .inl (bef j i oj hj h1)
    · exact .inr ⟨h1, fun a b => hsub _ (h2 a b), fun a b => hsub _ (h3 a b)⟩
  refine ⟨fun j oj hj e he hb => by simpa using (hs j oj hj).1 e he hb, fun i j oi oj hij hi hj => (key i j oi oj hij hi hj).imp id (·.1), fun i j oi oj hne hi hj hr he => ?_⟩
  rcases Nat.lt_or_ge i j with h' | h'
  · rcases key i j oi oj h' hi hj with h1 | ⟨_, h1, _⟩
    · exact .inr (.inl ⟨h', h1⟩)
    · exact .inr (.inr (h1 hr he))
  · have h' : j < i := by omega
    rcases key j i oj oi h' hj hi with h1 | ⟨_, _, h1⟩
    · exact .inl ⟨h', h1⟩
    · exact .inr (.inr (h1 hr he))

end Go.Den

namespace Go.Den
open Go.RowKit

structure Tr (E : Env) (fi : FI) (call : CallF) (ops : Array Oper) (s0 : St) (st : Nat → St) (an : Nat → Option D) : Prop where
  start : st 0 = s0
  step : ∀ (k : Nat) o, ops[k]? = some o → StepOk E fi call ops o (st k) (st (k + 1)) (an k)

def exB (fi : FI) (o : Oper) (a : Option D) : Bool := effB fi o && a.isSome

/-- What one operation does, as it was recorded. -/
def act (fi : FI) (o : Oper) (s' : St) (a : Option D) (r : St) : St := ({ r with cs := if exB fi o a then s'.cs else r.cs } : St).put o.dst (a.getD (.tup []))

def rp (fi : FI) (ops : Array Oper) (s0 : St) (st : Nat → St) (an : Nat → Option D) (L : Nat → Bool) : Nat → St
  | 0 => s0
  | k + 1 => if L k then match ops[k]? with
      | some o => act fi o (st (k + 1)) (an k) (rp fi ops s0 st an L k)
      | none => rp fi ops s0 st an L k
    else rp fi ops s0 st an L k

theorem rp_succ (fi : FI) (ops : Array Oper) (s0 : St) (st : Nat → St) (an : Nat → Option D) (L : Nat → Bool) (k : Nat) : rp fi ops s0 st an L (k + 1) = if L k then match ops[k]? with
      | some o => act fi o (st (k + 1)) (an k) (rp fi ops s0 st an L k)
      | none => rp fi ops s0 st an L k
    else rp fi ops s0 st an L k := rfl

theorem put_cs (s : St) (dst : Option Tmp) (d : D) : (s.put dst d).cs = s.cs := by cases dst <;> rfl
theorem put_congr {s s' : St} {t : Nat} (h : s.sl[t]? = s'.sl[t]?) (dst : Option Tmp) (d : D) : (s.put dst d).sl[t]? = (s'.put dst d).sl[t]? := by
  cases dst with
  | none => exact h
  | some u => simp only [St.put, List.getElem?_set', h]
theorem put_other {s : St} {t : Nat} {dst : Option Tmp} (h : dst ≠ some t) (d : D) : (s.put dst d).sl[t]? = s.sl[t]? := by
  cases dst with
  | none => rfl
  | some u =>
    simp only [St.put]
    rw [List.getElem?_set_ne (fun e => h (by rw [e]))]
theorem act_cs (fi : FI) (o : Oper) (s' : St) (a : Option D) (r : St) : (act fi o s' a r).cs = if exB fi o a then s'.cs else r.cs := put_cs _ _ _

section
variable {E : Env} {fi : FI} {call : CallF} {ops : Array Oper} {s0 : St} {st : Nat → St} {an : Nat → Option D}

theorem step_sl {o : Oper} {s s' : St} {a : Option D} (h : StepOk E fi call ops o s s' a) (t : Nat) : s'.sl[t]? = (s.put o.dst (a.getD (.tup []))).sl[t]? := by
  rcases h with ⟨_, rfl, rfl⟩ | ⟨d, c, _, _, rfl, rfl⟩
  · rfl
  · exact put_congr (s := { s with cs := c }) (s' := s) rfl _ _
theorem step_cs {o : Oper} {s s' : St} {a : Option D} (h : StepOk E fi call ops o s s' a) (hx : exB fi o a = false) : s'.cs = s.cs := by
  rcases h with ⟨_, rfl, rfl⟩ | ⟨d, c, _, hr, rfl, rfl⟩
  · exact put_cs _ _ _
  · rw [put_cs]
    exact runOp_quiet (by simpa [exB] using hx) hr

theorem rp_sl_below (hT : Tr E fi call ops s0 st an) {L : Nat → Bool} {t : Nat} : ∀ m, m ≤ ops.size → (∀ (k : Nat) o, k < m → ops[k]? = some o → o.dst = some t → L k = true) →
    (rp fi ops s0 st an L m).sl[t]? = (st m).sl[t]?
  | 0, _, _ => by rw [rp, hT.start]
  | m + 1, hm, h => by
    have ih := rp_sl_below hT m (by omega) (fun k o hk => h k o (by omega))
    have hlt : m < ops.size := by omega
    have ho : ops[m]? = some ops[m] := Array.getElem?_eq_getElem hlt
    have hs := hT.step m _ ho
    rw [step_sl hs t]
    rw [rp_succ]
    by_cases hL : L m = true
    · rw [if_pos hL, ho]
      simp only [act]
      exact put_congr (s := ⟨(rp fi ops s0 st an L m).sl, if exB fi ops[m] (an m) then (st (m + 1)).cs else (rp fi ops s0 st an L m).cs⟩) (s' := st m) ih _ _
    · rw [if_neg hL, put_other (fun e => hL (h m _ (by omega) ho e))]
      exact ih

theorem rp_sl_above {L : Nat → Bool} {t i : Nat} : ∀ m, i ≤ m → (∀ (k : Nat) o, i ≤ k → k < m → ops[k]? = some o → L k = true → o.dst ≠ some t) →
    (rp fi ops s0 st an L m).sl[t]? = (rp fi ops s0 st an L i).sl[t]?
  | 0, hm, _ => by obtain rfl : i = 0 := by omega
                   rfl
  | m + 1, hm, h => by
    by_cases hi : i = m + 1
    · rw [hi]
    · have ih := rp_sl_above m (by omega) (fun k o hk hk' => h k o hk (by omega))
      rw [← ih]
      conv => lhs; rw [rp_succ]
      by_cases hL : L m = true
      · rw [if_pos hL]
        cases ho : ops[m]? with
        | none => rfl
        | some o =>
          simp only [act]
          rw [put_other (h m o (by omega) (by omega) ho hL)]
      · rw [if_neg hL]

theorem rp_cs_below (hT : Tr E fi call ops s0 st an) {L : Nat → Bool} : ∀ m, m ≤ ops.size → (∀ (k : Nat) o, k < m → ops[k]? = some o → exB fi o (an k) = true → L k = true) →
    (rp fi ops s0 st an L m).cs = (st m).cs
  | 0, _, _ => by rw [rp, hT.start]
  | m + 1, hm, h => by
    have ih := rp_cs_below hT m (by omega) (fun k o hk => h k o (by omega))
    have hlt : m < ops.size := by omega
    have ho : ops[m]? = some ops[m] := Array.getElem?_eq_getElem hlt
    have hs := hT.step m _ ho
    rw [rp_succ]
    by_cases hL : L m = true
    · rw [if_pos hL, ho]
      simp only [act_cs]
      split
      · rfl
      · rename_i hx
        rw [ih, step_cs hs (by simpa using hx)]
    · rw [if_neg hL, ih, step_cs hs (by
        cases hx : exB fi ops[m] (an m) with
        | false => rfl
        | true => exact absurd (h m _ (by omega) ho hx) hL)]

theorem rp_cs_above {L : Nat → Bool} {i : Nat} : ∀ m, i ≤ m → (∀ (k : Nat) o, i ≤ k → k < m → ops[k]? = some o → L k = true → exB fi o (an k) = false) →
    (rp fi ops s0 st an L m).cs = (rp fi ops s0 st an L i).cs
  | 0, hm, _ => by obtain rfl : i = 0 := by omega
                   rfl
  | m + 1, hm, h => by
    by_cases hi : i = m + 1
    · rw [hi]
    · have ih := rp_cs_above m (by omega) (fun k o hk hk' => h k o hk (by omega))
      rw [← ih]
      conv => lhs; rw [rp_succ]
      by_cases hL : L m = true
      · rw [if_pos hL]
        cases ho : ops[m]? with
        | none => rfl
        | some o =>
          simp only [act_cs]
          rw [h m o (by omega) (by omega) ho hL]
          rfl
      · rw [if_neg hL]

/-- A property of the table that holds behind each effect, and at the start. -/
theorem rp_cs_pred {L : Nat → Bool} (G : CS → Prop) {i : Nat} (h0 : G (rp fi ops s0 st an L i).cs) : ∀ m, i ≤ m →
    (∀ (k : Nat) o, i ≤ k → k < m → ops[k]? = some o → L k = true → exB fi o (an k) = true → G (st (k + 1)).cs) → G (rp fi ops s0 st an L m).cs
  | 0, hm, _ => by obtain rfl : i = 0 := by omega
                   exact h0
  | m + 1, hm, h => by
    by_cases hi : i = m + 1
    · rw [← hi]; exact h0
    · have ih := rp_cs_pred G h0 m (by omega) (fun k o hk hk' => h k o hk (by omega))
      rw [rp_succ]
      by_cases hL : L m = true
      · rw [if_pos hL]
        cases ho : ops[m]? with
        | none => exact ih
        | some o =>
          simp only [act_cs]
          split
          · rename_i hx; exact h m o (by omega) (by omega) ho hL hx
          · exact ih
      · rw [if_neg hL]; exact ih

theorem wantD_congr {o : Oper} {s s' : St} (h : ∀ t ∈ o.looksAt ops, s.sl[t]? = s'.sl[t]?) : wantD ops o s = wantD ops o s' := by
  unfold wantD
  cases hg : o.guard with
  | none => rfl
  | some q =>
    obtain ⟨j, want⟩ := q
    simp only
    cases hd : (ops[j]?).bind (·.dst) with
    | none => rfl
    | some t =>
      simp only [Option.bind_some]
      rw [h t (by simp [Oper.looksAt, hg, hd])]

theorem disB_spec {oi oj : Oper} (h : disB ops fi oi oj = true) : ¬(effB fi oi = true ∧ effB fi oj = true) ∧ (∀ t, oi.dst = some t → t ∉ oj.looksAt ops ∧ oj.dst ≠ some t) ∧ (∀ t, oj.dst = some t → t ∉ oi.looksAt ops) := by
  unfold disB at h
  simp only [Bool.and_eq_true, Bool.not_eq_true'] at h
  obtain ⟨⟨h1, h2⟩, h3⟩ := h
  refine ⟨fun hh => by simp [hh.1, hh.2] at h1, fun t ht => ?_, fun t ht => ?_⟩
  · rw [ht] at h2; simpa using h2
  · rw [ht] at h3; simpa using h3

structure Here (ops : Array Oper) (L : Nat → Bool) (i : Nat) (o : Oper) : Prop where
  closed : Closed ops L
  op : ops[i]? = some o
  un : L i = false
  after : ∀ e ∈ o.after.toList, Region.binds .any e = true → L e.on = true

variable {ps : List (Nat × Nat)} {L : Nat → Bool} {i : Nat} {o : Oper}

theorem Here.bef (h : Here ops L i o) {k : Nat} (hb : Bef ops i k) : L k = true := hb L h.closed o h.op h.after
theorem Here.not (h : Here ops L i o) {k : Nat} {ok : Oper} (hk : ops[k]? = some ok) (hL : L k = true) (hb : Bef ops k i) : False := by
  have := hb L h.closed ok hk (h.closed k ok hk hL)
  rw [h.un] at this; simp at this

/-- Against a listed one behind it, or an unlisted one ahead of it: apart. -/
theorem Here.below (h : Here ops L i o) (hO : Ord ops fi ps) {k : Nat} {ok : Oper} (hk : ops[k]? = some ok) (hlt : k < i) (hL : L k = false) : disB ops fi ok o = true := by
  rcases hO.ord k i ok o hlt hk h.op with hb | hd
  · have := h.bef hb; rw [hL] at this; simp at this
  · exact hd
theorem Here.above (h : Here ops L i o) (hO : Ord ops fi ps) {k : Nat} {ok : Oper} (hk : ops[k]? = some ok) (hlt : i < k) (hL : L k = true) : disB ops fi o ok = true := by
  rcases hO.ord i k o ok hlt h.op hk with hb | hd
  · exact (h.not hk hL hb).elim
  · exact hd

theorem Here.slots (h : Here ops L i o) (hO : Ord ops fi ps) (hT : Tr E fi call ops s0 st an) {t : Nat} (ht : t ∈ o.looksAt ops) : (rp fi ops s0 st an L ops.size).sl[t]? = (st i).sl[t]? := by
  have hi := (Array.getElem?_eq_some_iff.1 h.op).1
  rw [rp_sl_above (i := i) ops.size (by omega) (fun k ok hk hk' hko hL hd => by
    by_cases hki : k = i
    · subst hki; rw [h.un] at hL; simp at hL
    · exact (disB_spec (h.above hO hko (by omega) hL)).2.2 t hd ht)]
  refine rp_sl_below hT i (by omega) (fun k ok hk hko hd => ?_)
  cases hL : L k with
  | true => rfl
  | false => exact ((((disB_spec (h.below hO hko hk hL)).2.1 t hd).1) ht).elim

theorem Here.wanted (h : Here ops L i o) (hO : Ord ops fi ps) (hT : Tr E fi call ops s0 st an) : wantD ops o (rp fi ops s0 st an L ops.size) = wantD ops o (st i) :=
  wantD_congr fun t ht => h.slots hO hT ht

theorem Here.runs (h : Here ops L i o) (hO : Ord ops fi ps) (hT : Tr E fi call ops s0 st an) (hS : ∀ p ∈ ps, Stable E fi call ops st an p) {d : D} (hd : an i = some d) :
    ∃ c, runOp E fi call o (rp fi ops s0 st an L ops.size) = some (d, c) ∧ c = if exB fi o (an i) then (st (i + 1)).cs else (rp fi ops s0 st an L ops.size).cs := by
  have hi := (Array.getElem?_eq_some_iff.1 h.op).1
  have hs := hT.step i o h.op
  rcases hs with ⟨_, hn, _⟩ | ⟨d', c, _, hr, hn, hst⟩
  · rw [hn] at hd; simp at hd
  obtain rfl : d = d' := by rw [hn] at hd; exact (Option.some.inj hd).symm
  have hcg : runOp E fi call o (rp fi ops s0 st an L ops.size) = runOp E fi call o { st i with cs := (rp fi ops s0 st an L ops.size).cs } := runOp_congr fun t ht => by
    have := h.slots hO hT (t := t) (by
      simp only [Oper.looksAt, List.mem_append, List.mem_filterMap]
      exact .inl ⟨_, ht, rfl⟩)
    simp only [List.getD_eq_getElem?_getD, this]
  rw [hcg]
  by_cases he : effB fi o = true
  · have hcs : (rp fi ops s0 st an L ops.size).cs = (st i).cs := by
      rw [rp_cs_above (i := i) ops.size (by omega) (fun k ok hk hk' hko hL => by
        by_cases hki : k = i
        · subst hki; rw [h.un] at hL; simp at hL
        · cases hx : exB fi ok (an k) with
          | false => rfl
          | true =>
            simp only [exB, Bool.and_eq_true] at hx
            exact ((disB_spec (h.above hO hko (by omega) hL)).1 ⟨he, hx.1⟩).elim)]
      refine rp_cs_below hT i (by omega) (fun k ok hk hko hx => ?_)
      simp only [exB, Bool.and_eq_true] at hx
      cases hL : L k with
      | true => rfl
      | false => exact ((disB_spec (h.below hO hko hk hL)).1 ⟨hx.1, he⟩).elim
    rw [hcs]
    refine ⟨c, hr, ?_⟩
    rw [if_pos (by simp [exB, he, hd]), hst, put_cs]
  · have he : effB fi o = false := by simpa using he
    rw [if_neg (by simp [exB, he])]
    have good : ∃ c', runOp E fi call o { st i with cs := (rp fi ops s0 st an L ops.size).cs } = some (d, c') := by
      by_cases hrd : readB fi o = true
      · have G : ∀ c0, (c0 = (st i).cs → ∃ c', runOp E fi call o { st i with cs := c0 } = some (d, c')) := fun c0 e => ⟨c, by rw [e]; exact hr⟩
        -- ahead of i: the recorded table, or a good one
        have below : ∀ m, m ≤ i → (rp fi ops s0 st an L m).cs = (st m).cs ∨ ∃ c', runOp E fi call o { st i with cs := (rp fi ops s0 st an L m).cs } = some (d, c') := by
          intro m
          induction m with
          | zero => intro _; left; rw [rp, hT.start]
          | succ m ih =>
            intro hm
            have hlt : m < ops.size := by omega
            have ho : ops[m]? = some ops[m] := Array.getElem?_eq_getElem hlt
            have hsm := hT.step m _ ho
            have ih := ih (by omega)
            by_cases hx : exB fi ops[m] (an m) = true
            · by_cases hL : L m = true
              · left
                unfold rp
                rw [if_pos hL, ho]
                simp only [act_cs]
                rw [if_pos hx]
              · have hL : L m = false := by simpa using hL
                have e : rp fi ops s0 st an L (m + 1) = rp fi ops s0 st an L m := by rw [rp, hL]; simp
                rw [e]
                right
                rcases ih with ih | ih
                · rw [ih]
                  simp only [exB, Bool.and_eq_true] at hx
                  rcases hO.st i m o ops[m] (by omega) h.op ho hrd hx.1 with ⟨_, hb⟩ | ⟨h1, _⟩ | hmem
                  · have := h.bef hb; rw [hL] at this; simp at this
                  · omega
                  · have := hS _ hmem o d h.op hd hx.2
                    simp only [show m < i from by omega, if_true] at this
                    exact this
                · exact ih
            · have hx : exB fi ops[m] (an m) = false := by simpa using hx
              have e : (rp fi ops s0 st an L (m + 1)).cs = (rp fi ops s0 st an L m).cs := by
                rw [rp_succ]
                split
                · rw [ho]; simp only [act_cs, hx]; rfl
                · rfl
              rw [e, step_cs hsm hx]
              exact ih
        have hat : ∃ c', runOp E fi call o { st i with cs := (rp fi ops s0 st an L i).cs } = some (d, c') := by
          rcases below i (Nat.le_refl _) with h | h
          · exact G _ h
          · exact h
        refine rp_cs_pred (i := i) (fun c0 => ∃ c', runOp E fi call o { st i with cs := c0 } = some (d, c')) hat ops.size (by omega) (fun k ok hk hk' hko hL hx => ?_)
        simp only [exB, Bool.and_eq_true] at hx
        have hki : k ≠ i := fun e => by subst e; rw [h.un] at hL; simp at hL
        rcases hO.st i k o ok (Ne.symm hki) h.op hko hrd hx.1 with ⟨h1, _⟩ | ⟨_, hb⟩ | hmem
        · omega
        · exact (h.not hko hL hb).elim
        · have := hS _ hmem o d h.op hd hx.2
          simp only [show ¬ k < i from by omega, if_false] at this
          exact this
      · exact ⟨_, runOp_free he (by simpa using hrd) hr _⟩
    obtain ⟨c', hc'⟩ := good
    exact ⟨c', hc', runOp_quiet (s := { st i with cs := (rp fi ops s0 st an L ops.size).cs }) he hc'⟩

/-- One more. -/
theorem Here.next (h : Here ops L i o) (hO : Ord ops fi ps) : ∀ m, i < m → m ≤ ops.size →
    rp fi ops s0 st an (fun k => L k || k == i) m = act fi o (st (i + 1)) (an i) (rp fi ops s0 st an L m) := by
  have low : ∀ m, m ≤ i → rp fi ops s0 st an (fun k => L k || k == i) m = rp fi ops s0 st an L m := by
    intro m
    induction m with
    | zero => intro _; rfl
    | succ m ih =>
      intro hm
      have : (m == i) = false := by simp; omega
      rw [rp_succ, rp_succ]
      simp only [this, Bool.or_false, ih (by omega)]
  intro m
  induction m with
  | zero => intro hm; omega
  | succ m ih =>
    intro him hm
    by_cases hmi : m = i
    · subst hmi
      have e1 : rp fi ops s0 st an L (m + 1) = rp fi ops s0 st an L m := by rw [rp, h.un]; simp
      rw [e1, rp_succ]
      simp only [beq_self_eq_true, Bool.or_true, if_true, h.op, low m (Nat.le_refl _)]
    · have hlt : i < m := by omega
      have ih := ih hlt (by omega)
      have ho : ops[m]? = some ops[m] := Array.getElem?_eq_getElem (by omega)
      have : (m == i) = false := by simp; omega
      rw [rp_succ, rp_succ]
      simp only [this, Bool.or_false, ho]
      split
      · rename_i hL
        rw [ih]
        obtain ⟨d1, d2, d3⟩ := disB_spec (h.above hO ho hlt hL)
        generalize rp fi ops s0 st an L m = r
        have hx : ¬(exB fi o (an i) = true ∧ exB fi ops[m] (an m) = true) := fun hh => d1 (by simp only [exB, Bool.and_eq_true] at hh; exact ⟨hh.1.1, hh.2.1⟩)
        have hcs : (act fi ops[m] (st (m + 1)) (an m) (act fi o (st (i + 1)) (an i) r)).cs = (act fi o (st (i + 1)) (an i) (act fi ops[m] (st (m + 1)) (an m) r)).cs := by
          simp only [act_cs]
          split <;> split <;> first | rfl | (rename_i a b; exact (hx ⟨b, a⟩).elim)
        have hsl : (act fi ops[m] (st (m + 1)) (an m) (act fi o (st (i + 1)) (an i) r)).sl = (act fi o (st (i + 1)) (an i) (act fi ops[m] (st (m + 1)) (an m) r)).sl := by
          unfold act
          cases h1 : o.dst with
          | none => cases ops[m].dst <;> rfl
          | some t =>
            cases h2 : ops[m].dst with
            | none => rfl
            | some u =>
              simp only [St.put]
              refine List.set_comm _ _ (fun e => (d2 t h1).2 (by rw [h2, e]))
        have : ∀ a b : St, a.cs = b.cs → a.sl = b.sl → a = b := fun a b h1 h2 => by cases a; cases b; simp_all
        exact this _ _ hcs hsl
      · exact ih

theorem rp_all (hT : Tr E fi call ops s0 st an) {L : Nat → Bool} (hL : ∀ k, k < ops.size → L k = true) : rp fi ops s0 st an L ops.size = st ops.size := by
  have : ∀ a b : St, a.cs = b.cs → a.sl = b.sl → a = b := fun a b h1 h2 => by cases a; cases b; simp_all
  refine this _ _ (rp_cs_below hT _ (Nat.le_refl _) (fun k _ hk _ _ => hL k hk)) (List.ext_getElem? fun t => ?_)
  exact rp_sl_below hT _ (Nat.le_refl _) (fun k _ hk _ _ => hL k hk)

end
end Go.Den

namespace Go.Den
open Go.RowKit
section
variable {P : Program} {E : Env} {fi : FI} {call : CallF} {ops : Array Oper} {s0 : St} {st : Nat → St} {an : Nat → Option D} {ps : List (Nat × Nat)}

theorem rep_false (m j : Nat) : (Array.replicate m false).getD j false = false := by
  rcases Nat.lt_or_ge j m with h | h
  · simp [h]
  · simp [h]

theorem getD_set {l : Array Bool} {i : Nat} (hi : i < l.size) (k : Nat) : (l.setIfInBounds i true).getD k false = (l.getD k false || k == i) := by
  by_cases h : i = k
  · subst h; simp [hi]
  · rw [getD_set_ne false h]
    have : (k == i) = false := by simp; omega
    rw [this, Bool.or_false]

theorem wpAny_ok (hE : EnvOk P E) (hc : CallOk P E call) (hO : Ord ops fi ps) (hT : Tr E fi call ops s0 st an) (hS : ∀ p ∈ ps, Stable E fi call ops st an p) {Q : Exit → Act → World → Prop} :
    ∀ (fuel : Nat) (l : Array Bool), l.size = ops.size → l.toList.countP (fun b => !b) ≤ fuel → Closed ops (fun k => l.getD k false) →
      ∀ (g : Gh) (a : Act) (w : World), Rel E g (rp fi ops s0 st an (fun k => l.getD k false) ops.size) a w →
        (∀ a' w' g', Rel E g' (st ops.size) a' w' → Evo g (rp fi ops s0 st an (fun k => l.getD k false) ops.size).cs w g' (st ops.size).cs w' → Q .normal a' w') →
        wpAny P .any ops Q fuel l a w := by
  intro fuel
  -- all are listed
  have done : ∀ (l : Array Bool), l.size = ops.size → (∀ k, k < ops.size → l.getD k false = true) → Region.ready .any ops l = [] := fun l hl h => by
    cases hr : Region.ready .any ops l with
    | nil => rfl
    | cons j js =>
      have hj : j ∈ Region.ready .any ops l := by rw [hr]; exact List.mem_cons_self
      obtain ⟨h0, o, ho, _⟩ := mem_ready.1 hj
      have := (Array.getElem?_eq_some_iff.1 ho).1
      have h1 := h j this
      simp [hl, this] at h0 h1
      rw [h0] at h1; simp at h1
  -- none is ready: all are listed
  have stuck : ∀ (l : Array Bool), l.size = ops.size → Region.ready .any ops l = [] → ∀ k, k < ops.size → l.getD k false = true := fun l hl hr k => by
    induction k using Nat.strongRecOn with
    | _ k ih =>
      intro hk
      cases hb : l.getD k false with
      | true => rfl
      | false =>
        have : k ∈ Region.ready .any ops l := mem_ready.2 ⟨by simp [hl, hk] at hb ⊢; exact hb, _, Array.getElem?_eq_getElem hk, fun e he hbd => by
          have := hO.back k _ (Array.getElem?_eq_getElem hk) e (by simpa using he) hbd
          exact ih e.on this (by omega)⟩
        rw [hr] at this; simp at this
  induction fuel with
  | zero =>
    intro l hl hcnt _ g a w hR hQ
    have hall : ∀ k, k < ops.size → l.getD k false = true := fun k hk => by
      have h0 : l.toList.countP (fun b => !b) = 0 := by omega
      rw [List.countP_eq_zero] at h0
      have := h0 l[k] (by simp)
      simp [hl, hk]
      simpa using this
    refine ⟨done l hl hall, ?_⟩
    rw [rp_all hT hall] at hR hQ
    exact hQ a w g hR (.refl hR.inv.mb _ _)
  | succ fuel ih =>
    intro l hl hcnt hcl g a w hR hQ
    refine ⟨fun hr => ?_, fun i hi => ?_⟩
    · rw [rp_all hT (stuck l hl hr)] at hR hQ
      exact hQ a w g hR (.refl hR.inv.mb _ _)
    · obtain ⟨h0, o, ho, hall⟩ := mem_ready.1 hi
      have hlt := (Array.getElem?_eq_some_iff.1 ho).1
      have hun : l.getD i false = false := by simp [hl, hlt] at h0 ⊢; exact h0
      have hH : Here ops (fun k => l.getD k false) i o := ⟨hcl, ho, hun, fun e he hb => hall e (by simpa using he) hb⟩
      have hL : (fun k => (l.setIfInBounds i true).getD k false) = fun k => l.getD k false || k == i := funext (getD_set (by omega))
      have hcl' : Closed ops (fun k => (l.setIfInBounds i true).getD k false) := fun j oj hj hlj e he hb => by
        rw [hL] at hlj ⊢
        simp only [Bool.or_eq_true, beq_iff_eq] at hlj ⊢
        rcases hlj with h | h
        · exact .inl (hcl j oj hj h e he hb)
        · subst h
          obtain rfl := Option.some.inj (ho.symm.trans hj)
          exact .inl (hH.after e he hb)
      have hcnt' : (l.setIfInBounds i true).toList.countP (fun b => !b) ≤ fuel := by
        rw [Array.toList_setIfInBounds, List.countP_set (by simpa using (by omega : i < l.size))]
        have hb : l.toList[i]'(by simpa using (by omega : i < l.size)) = false := by
          have : i < l.size := by omega
          simp [this] at hun
          simpa using hun
        rw [hb]
        simp only [Bool.not_false, if_true, Bool.not_true, Bool.false_eq_true, if_false]
        omega
      have hn := hH.next (s0 := s0) (st := st) (an := an) hO ops.size hlt (Nat.le_refl _)
      rw [← hL] at hn
      have go := ih (l.setIfInBounds i true) (by simp [hl]) hcnt' hcl'
      unfold wpOp
      rw [ho]
      simp only
      have hw := hH.wanted hO hT
      rcases hT.step i o ho with ⟨h1, h2, _⟩ | ⟨d, c, h1, h2, h3, _⟩
      · rw [h1] at hw
        rw [wantD_ok hR hw]
        simp only [Bool.false_eq_true, if_false]
        have hR' : Rel E g ((rp fi ops s0 st an (fun k => l.getD k false) ops.size).put o.dst (.tup [])) (a.put o.dst undef) w :=
          hR.put (c' := (rp fi ops s0 st an (fun k => l.getD k false) ops.size).cs) (d := .tup []) (v := undef) (.tup (vs := []) rfl (by simp)) hR.inv (.refl hR.inv.mb _ _) o.dst
        have e : rp fi ops s0 st an (fun k => (l.setIfInBounds i true).getD k false) ops.size = (rp fi ops s0 st an (fun k => l.getD k false) ops.size).put o.dst (.tup []) := by
          rw [hn]
          unfold act
          rw [h2]
          simp [exB]
        refine go g _ w (by rw [e]; exact hR') (fun a' w' g' k1 k2 => hQ a' w' g' k1 ?_)
        rw [e, put_cs] at k2
        exact k2
      · rw [h1] at hw
        rw [wantD_ok hR hw]
        simp only [if_true]
        left
        obtain ⟨c', hr, hc'⟩ := hH.runs hO hT hS h3
        refine runOp_ok hE hc hR hr (fun v w' g' hv hI he => ?_)
        have hR' := hR.put hv hI he o.dst
        have e : rp fi ops s0 st an (fun k => (l.setIfInBounds i true).getD k false) ops.size = ({ rp fi ops s0 st an (fun k => l.getD k false) ops.size with cs := c' } : St).put o.dst d := by
          rw [hn]
          unfold act
          rw [hc', h3]
          rfl
        refine go g' _ w' (by rw [e]; exact hR') (fun a' w'' g'' k1 k2 => hQ a' w'' g'' k1 ?_)
        rw [e, put_cs] at k2
        exact he.trans k2

theorem drew_rel {s : St} {g : Gh} {a : Act} {w : World} (hR : Rel E g s a w) : Rel E g s a { w with drawn := w.drawn + 1 } ∧ Evo g s.cs w g s.cs { w with drawn := w.drawn + 1 } := by
  have e : Evo g s.cs w g s.cs { w with drawn := w.drawn + 1 } := evo_grow hR.inv rfl rfl rfl (Nat.le_refl _) (fun _ _ => rfl)
  exact ⟨⟨hR.size, fun i d hi => (hR.slot i d hi).mono e, hR.defers, inv_grow hR.inv e (fun _ _ => rfl)⟩, e⟩

/-- The whole of a region whose order is drawn. -/
theorem draw_ok (hE : EnvOk P E) : ∀ fi call, CallOk P E call → DrawOk P E (drawRun E fi call) := by
  intro fi call hc id ops s s' h g a w hR
  obtain ⟨hR', he⟩ := drew_rel hR
  have main : ∀ ps l, drawPairs fi ops = some ps → trace E fi call ops ops.toList s = some (l, s') → (∀ p ∈ ps, Stable E fi call ops (stAt l s') (anAt l) p) →
      (Code.region id ops true).wp P (Post E .normal s' g s.cs w) a w := by
    intro ps l hp ht hS
    obtain ⟨t1, t2, t3⟩ := trace_spec ops.toList s s' l ht
    have hO := drawPairs_spec hp
    have hT : Tr E fi call ops s (stAt l s') (anAt l) := ⟨t1, fun k o ho => t3 k o (by simpa using ho)⟩
    have hz : ∀ m, rp fi ops s (stAt l s') (anAt l) (fun k => (Array.replicate ops.size false).getD k false) m = s := by
      intro m
      induction m with
      | zero => rfl
      | succ m ih => rw [rp_succ, rep_false]; simpa using ih
    refine wp_region_any hE.mixed (wpAny_ok hE hc hO hT hS ops.size _ (by simp) (Nat.le_trans List.countP_le_length (by simp)) (fun j o _ hj => by simp only [rep_false] at hj; simp at hj) g a _ ?_ ?_)
    · rw [hz]; exact hR'
    · rw [hz]
      intro a' w' g' k1 k2
      have t2' : stAt l s' ops.size = s' := by simpa using t2
      rw [t2'] at k1 k2
      exact ⟨rfl, g', k1, he.trans k2⟩
  unfold drawRun at h
  split at h
  · simp at h
  · rename_i hp
    obtain ⟨l, hl⟩ := trace_of_runOps _ _ _ h
    exact main [] l hp hl (by simp)
  · rename_i ps _ hp
    split at h
    · rename_i l s1 hl
      split at h
      · rename_i hS
        obtain rfl := Option.some.inj h
        exact main ps l hp hl hS
      · simp at h
    · simp at h

/-- Every call that the interpreter answers goes so. -/
theorem den_call (hE : EnvOk P E) (n : Nat) : CallOk P E (F E (drawRun E) n) := F_ok hE (draw_ok hE) n

end
end Go.Den

namespace Go.Den
open Go.RowKit

/-- From some m on. -/
def Ev (p : Nat → Prop) : Prop := ∃ n, ∀ m, n ≤ m → p m
theorem Ev.and {p q : Nat → Prop} (h : Ev p) (k : Ev q) : Ev fun m => p m ∧ q m := by
  obtain ⟨n, h⟩ := h
  obtain ⟨n', k⟩ := k
  exact ⟨max n n', fun m hm => ⟨h m (by omega), k m (by omega)⟩⟩
theorem Ev.mono {p q : Nat → Prop} (h : Ev p) (k : ∀ m, p m → q m) : Ev q := by
  obtain ⟨n, h⟩ := h
  exact ⟨n, fun m hm => k m (h m hm)⟩
theorem Ev.all {p : Nat → Prop} (h : ∀ m, p m) : Ev p := ⟨0, fun m _ => h m⟩

/-- A family of calls comes up to one. -/
def Up (call : CallF) (G : Nat → CallF) : Prop := ∀ f a c r, call f a c = some r → Ev fun m => G m f a c = some r

section
variable {E : Env} {fi : FI} {call : CallF} {G : Nat → CallF}

theorem pcall_up (h : Up call G) {f : FuncId} {args : List D} {r : D} (hp : pcall E call f args = some r) : Ev fun m => pcall E (G m) f args = some r := by
  unfold pcall at hp
  split at hp
  · rename_i q c hq
    refine (h _ _ _ _ hq).mono fun m hm => ?_
    unfold pcall
    simp only [hm, hp]
  · simp at hp

theorem callD_up (h : Up call G) {md : CMode} {t : TypeId} {f : FuncId} {args : List D} {c : CS} {r : D × CS} (hp : callD E call md t f args c = some r) : Ev fun m => callD E (G m) md t f args c = some r := by
  unfold callD at hp
  split at hp
  · simp only [Option.map_eq_some_iff] at hp
    obtain ⟨d, hd, rfl⟩ := hp
    refine (pcall_up h hd).mono fun m hm => ?_
    simp [callD, hm]
  · exact (h _ _ _ _ hp).mono fun m hm => by simpa [callD] using hm
  · exact .all fun m => by simpa [callD] using hp
  · simp at hp

theorem runOp_up (h : Up call G) {o : Oper} {s : St} {r : D × CS} (hp : runOp E fi call o s = some r) : Ev fun m => runOp E fi (G m) o s = some r := by
  obtain ⟨dst, op, ty, gd, af, po⟩ := o
  cases op with
  | call q =>
    obtain ⟨cal, args, ts⟩ := q
    cases cal with
    | value f =>
      unfold runOp at hp
      simp only at hp
      split at hp
      · rename_i hf
        refine (callD_up h hp).mono fun m hm => ?_
        unfold runOp
        simp only [hf]
        exact hm
      · simp at hp
    | _ => exact .all fun m => hp
  | makeFunc f first caps => cases f <;> exact .all fun m => hp
  | _ => exact .all fun m => hp

theorem runOps_up (h : Up call G) {ops : Array Oper} : ∀ (os : List Oper) {s s' : St}, runOps E fi call ops os s = some s' → Ev fun m => runOps E fi (G m) ops os s = some s'
  | [], s, s', hp => .all fun m => hp
  | o :: os, s, s', hp => by
    unfold runOps at hp
    split at hp
    · simp at hp
    · rename_i hw
      refine (runOps_up h os hp).mono fun m hm => ?_
      unfold runOps
      rw [hw]; exact hm
    · rename_i hw
      split at hp
      · simp at hp
      · rename_i d c hr
        refine ((runOp_up h hr).and (runOps_up h os hp)).mono fun m hm => ?_
        unfold runOps
        rw [hw]
        simp only [hm.1, hm.2]

theorem trace_up (h : Up call G) {ops : Array Oper} : ∀ (os : List Oper) {s : St} {x}, trace E fi call ops os s = some x → Ev fun m => trace E fi (G m) ops os s = some x
  | [], s, s', hp => .all fun m => hp
  | o :: os, s, x, hp => by
    unfold trace at hp
    split at hp
    · simp at hp
    · rename_i hw
      split at hp
      · rename_i l s1 ht
        refine (trace_up h os ht).mono fun m hm => ?_
        unfold trace
        rw [hw]; simp only [hm]; exact hp
      · simp at hp
    · rename_i hw
      split at hp
      · simp at hp
      · rename_i d c hr
        split at hp
        · rename_i l s1 ht
          refine ((runOp_up h hr).and (trace_up h os ht)).mono fun m hm => ?_
          unfold trace
          rw [hw]
          simp only [hm.1, hm.2]
          exact hp
        · simp at hp

theorem stable_up (h : Up call G) {ops : Array Oper} {st : Nat → St} {an : Nat → Option D} {p : Nat × Nat} (hp : Stable E fi call ops st an p) : Ev fun m => Stable E fi (G m) ops st an p := by
  by_cases hc : ∃ oi d, ops[p.1]? = some oi ∧ an p.1 = some d ∧ (an p.2).isSome = true
  · obtain ⟨oi, d, h1, h2, h3⟩ := hc
    obtain ⟨c, hr⟩ := hp oi d h1 h2 h3
    refine (runOp_up h hr).mono fun m hm => ?_
    intro oi' d' k1 k2 k3
    obtain rfl := Option.some.inj (h1.symm.trans k1)
    obtain rfl := Option.some.inj (h2.symm.trans k2)
    exact ⟨c, hm⟩
  · exact .all fun m oi d k1 k2 k3 => absurd ⟨oi, d, k1, k2, k3⟩ hc

theorem stables_up (h : Up call G) {ops : Array Oper} {st : Nat → St} {an : Nat → Option D} : ∀ (ps : List (Nat × Nat)), (∀ p ∈ ps, Stable E fi call ops st an p) → Ev fun m => ∀ p ∈ ps, Stable E fi (G m) ops st an p
  | [], _ => .all fun m p hp => by simp at hp
  | q :: ps, hp => by
    refine ((stable_up h (hp q List.mem_cons_self)).and (stables_up h ps fun p hm => hp p (List.mem_cons_of_mem _ hm))).mono fun m hm p hpm => ?_
    rcases List.mem_cons.1 hpm with rfl | hpm
    · exact hm.1
    · exact hm.2 p hpm

theorem drawRun_up (h : Up call G) {id : Nat} {ops : Array Oper} {s s' : St} (hp : drawRun E fi call id ops s = some s') : Ev fun m => drawRun E fi (G m) id ops s = some s' := by
  unfold drawRun at hp
  split at hp
  · simp at hp
  · rename_i hd
    refine (runOps_up h _ hp).mono fun m hm => ?_
    unfold drawRun
    rw [hd]; exact hm
  · rename_i ps hne hd
    split at hp
    · rename_i l s1 ht
      split at hp
      · rename_i hS
        refine ((trace_up h _ ht).and (stables_up h ps hS)).mono fun m hm => ?_
        unfold drawRun
        rw [hd]
        cases ps with
        | nil => exact absurd rfl (hne · )
        | cons q ps => simp only [hm.1]; rw [if_pos hm.2]; exact hp
      · simp at hp
    · simp at hp

/-- A family of loops comes up to one. -/
def UpI (it : IterF) (I : Nat → IterF) : Prop := ∀ (b : St → Option (Ex × St)) (B : Nat → St → Option (Ex × St)), (∀ s r, b s = some r → Ev fun m => B m s = some r) → ∀ s r, it b s = some r → Ev fun m => I m (B m) s = some r

theorem den_up (h : Up call G) {it : IterF} {I : Nat → IterF} (hI : UpI it I) : ∀ (code : Code) {s : St} {r : Ex × St}, den E fi call (drawRun E fi call) it code s = some r → Ev fun m => den E fi (G m) (drawRun E fi (G m)) (I m) code s = some r := by
  intro code
  induction code with
  | skip => intro s r hp; exact .all fun m => hp
  | label => intro s r hp; exact .all fun m => hp
  | exit => intro s r hp; exact .all fun m => hp
  | ret => intro s r hp; exact .all fun m => hp
  | region id ops dr =>
    intro s r hp
    cases dr with
    | false =>
      simp only [den, Option.map_eq_some_iff] at hp ⊢
      obtain ⟨s', hs, rfl⟩ := hp
      exact (runOps_up h _ hs).mono fun m hm => ⟨s', hm, rfl⟩
    | true =>
      simp only [den, Option.map_eq_some_iff] at hp ⊢
      obtain ⟨s', hs, rfl⟩ := hp
      exact (drawRun_up h hs).mono fun m hm => ⟨s', hm, rfl⟩
  | seq x y ihx ihy =>
    intro s r hp
    simp only [den] at hp ⊢
    split at hp
    · rename_i s1 hx
      refine ((ihx hx).and (ihy hp)).mono fun m hm => ?_
      rw [hm.1]; exact hm.2
    · rename_i q hx
      refine (ihx hp).mono fun m hm => ?_
      rw [hm]
      obtain ⟨ex, s1⟩ := r
      cases ex with
      | normal => exact absurd hp (hx _)
      | _ => rfl
  | cond x y z ihy ihz =>
    intro s r hp
    simp only [den] at hp ⊢
    split at hp
    · exact ihy hp
    · exact ihz hp
    · simp at hp
  | block id x ih =>
    intro s r hp
    simp only [den] at hp ⊢
    split at hp
    · rename_i j s1 hx
      refine (ih hx).mono fun m hm => ?_
      rw [hm]; exact hp
    · rename_i q hx
      refine (ih hp).mono fun m hm => ?_
      rw [hm]
      obtain ⟨ex, s1⟩ := r
      cases ex with
      | exit j => exact absurd hp (hx _ _)
      | _ => rfl
  | loop x ih =>
    intro s r hp
    simp only [den] at hp ⊢
    exact hI _ _ (fun s r h => ih h) s r hp
  | scope x ih => intro s r hp; simp only [den] at hp ⊢; exact ih hp
  | _ => intro s r hp; simp [den] at hp

theorem iter_up : ∀ (k : Nat) {b : St → Option (Ex × St)} {B : Nat → St → Option (Ex × St)}, (∀ s r, b s = some r → Ev fun m => B m s = some r) → ∀ {s r}, iter b k s = some r → Ev fun m => ∀ j, k ≤ j → iter (B m) j s = some r
  | 0, _, _, _, s, r, hp => by simp [iter] at hp
  | k + 1, b, B, h, s, r, hp => by
    unfold iter at hp
    split at hp
    · rename_i s1 hb
      refine ((h _ _ hb).and (iter_up k h hp)).mono fun m hm j hj => ?_
      obtain ⟨j, rfl⟩ : ∃ i, j = i + 1 := ⟨j - 1, by omega⟩
      unfold iter
      rw [hm.1]
      exact hm.2 j (by omega)
    · rename_i q hb
      refine (h _ _ hp).mono fun m hm j hj => ?_
      obtain ⟨j, rfl⟩ : ∃ i, j = i + 1 := ⟨j - 1, by omega⟩
      unfold iter
      rw [hm]
      obtain ⟨ex, s1⟩ := r
      cases ex with
      | normal => exact absurd hp (hb _)
      | _ => rfl

/-- More fuel, the same answer. -/
theorem F_mono (n : Nat) : ∀ m, n ≤ m → ∀ f a c r, F E (drawRun E) n f a c = some r → F E (drawRun E) m f a c = some r := by
  induction n with
  | zero => intro m _ f a c r h; simp [F] at h
  | succ n ih =>
    intro m hm f a c r h
    obtain ⟨m, rfl⟩ : ∃ i, m = i + 1 := ⟨m - 1, by omega⟩
    simp only [F] at h ⊢
    split at h
    · exact h
    split at h
    · simp at h
    · rename_i fi hfi
      split at h
      · rename_i hl
        rw [if_pos hl]
        have hup : Up (F E (drawRun E) n) (fun _ => F E (drawRun E) m) := fun f a c r h => .all fun _ => ih m (by omega) f a c r h
        have hI : UpI (fun b s => iter b n s) (fun _ b s => iter b m s) := fun b B hb s r h => (iter_up n hb h).mono fun _ hj => hj m (by omega)
        have := fun {s r} (hd : den E fi (F E (drawRun E) n) (drawRun E fi (F E (drawRun E) n)) (fun b s => iter b n s) fi.body s = some r) => den_up (fi := fi) hup hI fi.body hd
        split at h
        · rename_i s1 hd
          obtain ⟨k, hk⟩ := this hd
          rw [hk k (Nat.le_refl _)]; exact h
        · rename_i s1 hd
          obtain ⟨k, hk⟩ := this hd
          rw [hk k (Nat.le_refl _)]; exact h
        · simp at h
      · simp at h

open Classical in
/-- A call, with as much fuel as it asks for. -/
noncomputable def FW (E : Env) : CallF := fun f a c => if h : ∃ r n, F E (drawRun E) n f a c = some r then some h.choose else none
open Classical in
noncomputable def iterW : IterF := fun b s => if h : ∃ r n, iter b n s = some r then some h.choose else none

theorem FW_iff {f : FuncId} {a : List D} {c : CS} {r : D × CS} : FW E f a c = some r ↔ ∃ n, F E (drawRun E) n f a c = some r := by
  unfold FW
  split
  · rename_i h
    constructor
    · intro e; obtain rfl := Option.some.inj e; exact h.choose_spec
    · rintro ⟨n, hn⟩
      obtain ⟨n', hn'⟩ := h.choose_spec
      have h1 := F_mono n (max n n') (by omega) _ _ _ _ hn
      have h2 := F_mono n' (max n n') (by omega) _ _ _ _ hn'
      rw [← h1, h2]
  · rename_i h
    simp only [reduceCtorEq, false_iff]
    rintro ⟨n, hn⟩
    exact h ⟨r, n, hn⟩

theorem iterW_iff {b : St → Option (Ex × St)} {s : St} {r : Ex × St} : iterW b s = some r ↔ ∃ n, iter b n s = some r := by
  have mono : ∀ n m, n ≤ m → ∀ {s r}, iter b n s = some r → iter b m s = some r := fun n m hm s r h => by
    obtain ⟨k, hk⟩ := iter_up n (B := fun _ => b) (fun s r h => .all fun _ => h) h
    exact hk k (Nat.le_refl _) m hm
  unfold iterW
  split
  · rename_i h
    constructor
    · intro e; obtain rfl := Option.some.inj e; exact h.choose_spec
    · rintro ⟨n, hn⟩
      obtain ⟨n', hn'⟩ := h.choose_spec
      have h1 := mono n (max n n') (by omega) hn
      have h2 := mono n' (max n n') (by omega) hn'
      rw [← h1, h2]
  · rename_i h
    simp only [reduceCtorEq, false_iff]
    rintro ⟨n, hn⟩
    exact h ⟨r, n, hn⟩

/-- One round. -/
theorem iterW_next {b : St → Option (Ex × St)} {s s' : St} (h : b s = some (.normal, s')) : iterW b s = iterW b s' := by
  have : ∀ r, iterW b s = some r ↔ iterW b s' = some r := fun r => by
    rw [iterW_iff, iterW_iff]
    constructor
    · rintro ⟨n, hn⟩
      cases n with
      | zero => simp [iter] at hn
      | succ n => unfold iter at hn; rw [h] at hn; exact ⟨n, hn⟩
    · rintro ⟨n, hn⟩
      refine ⟨n + 1, ?_⟩
      unfold iter
      rw [h]; exact hn
  exact Option.ext this

theorem iterW_end {b : St → Option (Ex × St)} {s : St} {ex : Ex} {s' : St} (h : b s = some (ex, s')) (hne : ex ≠ .normal) : iterW b s = some (ex, s') := by
  rw [iterW_iff]
  refine ⟨1, ?_⟩
  unfold iter
  rw [h]
  cases ex with
  | normal => exact absurd rfl hne
  | _ => rfl

/-- What a function's code answers is what the call answers. -/
theorem FW_of {f : FuncId} {a : List D} {c : CS} {ex : Ex} {s : St} {d : D} (ho : E.orc f = none) (hf : E.fn f = some fi) (hl : a.length = fi.np)
    (h : den E fi (FW E) (drawRun E fi (FW E)) iterW fi.body ⟨a ++ List.replicate (fi.nt - fi.np) .dead, c⟩ = some (ex, s)) (hex : ex = .normal ∨ ex = .ret) (hr : resultsD E fi s = some d) :
    FW E f a c = some (d, s.cs) := by
  have hup : Up (FW E) (F E (drawRun E)) := fun f a c r h => by
    obtain ⟨n, hn⟩ := FW_iff.1 h
    exact ⟨n, fun m hm => F_mono n m hm _ _ _ _ hn⟩
  have hI : UpI iterW (fun n b s => iter b n s) := fun b B hb s r h => by
    obtain ⟨n, hn⟩ := iterW_iff.1 h
    obtain ⟨k, hk⟩ := iter_up n hb hn
    exact ⟨max k n, fun m hm => hk m (by omega) m (by omega)⟩
  obtain ⟨n, hn⟩ := den_up hup hI fi.body h
  refine FW_iff.2 ⟨n + 1, ?_⟩
  simp only [F, ho, hf]
  rw [if_pos hl, hn n (Nat.le_refl _)]
  rcases hex with rfl | rfl <;> simp [hr]

/-- What a function's code ends with. -/
def finD (E : Env) (fi : FI) : Option (Ex × St) → Option (D × CS)
  | some (.normal, s) => (resultsD E fi s).map fun d => (d, s.cs)
  | some (.ret, s) => (resultsD E fi s).map fun d => (d, s.cs)
  | _ => none

theorem FW_eq {f : FuncId} {a : List D} {c : CS} (ho : E.orc f = none) (hf : E.fn f = some fi) (hl : a.length = fi.np) :
    FW E f a c = finD E fi (den E fi (FW E) (drawRun E fi (FW E)) iterW fi.body ⟨a ++ List.replicate (fi.nt - fi.np) .dead, c⟩) := by
  refine Option.ext fun r => ⟨fun h => ?_, fun h => ?_⟩
  · obtain ⟨n, hn⟩ := FW_iff.1 h
    cases n with
    | zero => simp [F] at hn
    | succ n =>
      simp only [F, ho, hf] at hn
      rw [if_pos hl] at hn
      have hup : Up (F E (drawRun E) n) (fun _ => FW E) := fun f a c r h => .all fun _ => FW_iff.2 ⟨n, h⟩
      have hI : UpI (fun b s => iter b n s) (fun _ => iterW) := fun b B hb s r h => (iter_up n hb h).mono fun _ hj => iterW_iff.2 ⟨n, hj n (Nat.le_refl _)⟩
      split at hn
      · rename_i s hd
        obtain ⟨k, hk⟩ := den_up hup hI fi.body hd
        rw [hk k (Nat.le_refl _)]; exact hn
      · rename_i s hd
        obtain ⟨k, hk⟩ := den_up hup hI fi.body hd
        rw [hk k (Nat.le_refl _)]; exact hn
      · simp at hn
  · unfold finD at h
    split at h
    · rename_i s hd
      simp only [Option.map_eq_some_iff] at h
      obtain ⟨d, hd', rfl⟩ := h
      exact FW_of ho hf hl hd (.inl rfl) hd'
    · rename_i s hd
      simp only [Option.map_eq_some_iff] at h
      obtain ⟨d, hd', rfl⟩ := h
      exact FW_of ho hf hl hd (.inr rfl) hd'
    · simp at h

theorem iterW_loop {b : St → Option (Ex × St)} {s : St} : iterW b s = match b s with
    | some (.normal, s') => iterW b s'
    | some r => some r
    | none => none := by
  split
  · rename_i s' h; exact iterW_next h
  · rename_i r hne h
    obtain ⟨ex, s'⟩ := r
    exact iterW_end h (fun e => hne s' (by rw [e]))
  · rename_i h
    cases hi : iterW b s with
    | none => rfl
    | some r =>
      obtain ⟨n, hn⟩ := iterW_iff.1 hi
      cases n with
      | zero => simp [iter] at hn
      | succ n => unfold iter at hn; rw [h] at hn; simp at hn

end

theorem FW_ok {P : Program} {E : Env} (hE : EnvOk P E) : CallOk P E (FW E) := fun f a c r c' h => by
  obtain ⟨n, hn⟩ := FW_iff.1 h
  exact den_call hE n f a c r c' hn

/-- What a call by itself answers. -/
noncomputable def PW (E : Env) (f : FuncId) (a : List D) : Option D := pcall E (FW E) f a

end Go.Den

namespace Go.Den
open Go.RowKit

def ofFunc (f : Func) (m : Nat → CMode) (k : Nat → Option (List Nat)) : FI := ⟨f.params.size + f.nfree, f.ntmps, f.results.toList, f.body.getD .skip, m, k⟩

def okFunc (f : Func) : Bool := f.body.isSome && !(f.name == "runtime.NumGoroutine") && decide (f.params.size + f.nfree ≤ f.ntmps)

def fnOf (P : Program) (md : FuncId → Nat → CMode) (kp : FuncId → Nat → Option (List Nat)) (f : FuncId) : Option FI := match P.funcs[f]? with
  | some fn => if okFunc fn then some (ofFunc fn (md f) (kp f)) else none
  | none => none

def tyOf (P : Program) (tab : TypeId → Option TI) (t : TypeId) : Option TI := match tab t with
  | some i => if tyB P t i then some i else none
  | none => none

theorem fnOf_ok {P : Program} {md : FuncId → Nat → CMode} {kp : FuncId → Nat → Option (List Nat)} {f : FuncId} {fi : FI} (h : fnOf P md kp f = some fi) : FnOk P f fi := by
  unfold fnOf at h
  split at h
  · rename_i fn hfn
    split at h
    · rename_i hok
      obtain rfl := Option.some.inj h
      simp only [okFunc, Bool.and_eq_true, Bool.not_eq_true', decide_eq_true_eq] at hok
      obtain ⟨⟨h1, h2⟩, h3⟩ := hok
      cases hb : fn.body with
      | none => rw [hb] at h1; simp at h1
      | some b => exact ⟨⟨fn, hfn, by simp [ofFunc, hb], rfl, rfl, h2⟩, h3⟩
    · simp at h
  · simp at h

theorem tyOf_ok {P : Program} {tab : TypeId → Option TI} {t : TypeId} {i : TI} (h : tyOf P tab t = some i) : tyB P t i = true := by
  unfold tyOf at h
  split at h
  · split at h
    · obtain rfl := Option.some.inj h; assumption
    · simp at h
  · simp at h

theorem fnOf_of {P : Program} {md : FuncId → Nat → CMode} {kp : FuncId → Nat → Option (List Nat)} {f : FuncId} {fn : Func} (h : P.funcs[f]? = some fn) (hok : okFunc fn = true) : fnOf P md kp f = some (ofFunc fn (md f) (kp f)) := by
  unfold fnOf
  rw [h]
  simp only [hok, if_true]

theorem tyOf_of {P : Program} {tab : TypeId → Option TI} {t : TypeId} {i : TI} (h : tab t = some i) (hok : tyB P t i = true) : tyOf P tab t = some i := by
  unfold tyOf
  rw [h]
  simp only [hok, if_true]

end Go.Den

namespace Go.Den
open Go.RowKit Go.Proofs

def eqFieldsB (P : Program) : List Field → Nat → Option (List TK)
  | [], _ => some []
  | f :: fs, k => if f.name != "_" && f.offset == k then
      match P.underlying f.type, eqFieldsB P fs (k + 1) with
      | some .bool, some ks => some (.bool :: ks)
      | some (.int i), some ks => some (.int i :: ks)
      | some .string, some ks => some (.str :: ks)
      | _, _ => none
    else none

def eqB (P : Program) (t : TypeId) : Option (List TK) := match P.underlying t with
  | some (.struct fs) => if !P.eqGuardType P.depth t && !P.stoodInHeld t then eqFieldsB P fs.toList 0 else none
  | _ => none

section
variable {P : Program}

theorem eqB_run (w : World) (d : Nat) : ∀ (fs : List Field) (k : Nat) (xs ys : List D) (us vs : Array Value) (b : Bool) (ks : List TK), eqFieldsB P fs k = some ks → kindsB ks xs = true → cellsEq xs ys = some b →
    (∀ (i : Nat) x, xs[i]? = some (.v x) → us[k + i]? = some x) → (∀ (i : Nat) x, ys[i]? = some (.v x) → vs[k + i]? = some x) → (Op.eqFields (d + 1) us vs fs).run P w = .ok b w
  | [], k, xs, ys, us, vs, b, ks, hf, hk, hc, hx, hy => by
    obtain rfl := Option.some.inj hf
    cases xs with
    | cons x xs => simp [kindsB] at hk
    | nil =>
      cases ys with
      | nil => obtain rfl := Option.some.inj hc; rfl
      | cons y ys => simp [cellsEq] at hc
  | f :: fs, k, xs, ys, us, vs, b, ks, hf, hk, hc, hx, hy => by
    unfold eqFieldsB at hf
    split at hf
    · rename_i h0
      simp only [Bool.and_eq_true, bne_iff_ne, ne_eq, beq_iff_eq] at h0
      obtain ⟨h1, h2⟩ := h0
      have main : ∀ (q : TK) (ks' : List TK) (x : Value) (xs' : List D), eqFieldsB P fs (k + 1) = some ks' → xs = .v x :: xs' → kindsB ks' xs' = true → (∀ w, (isAgg f.type).run P w = .ok false w) →
          (∀ y b1, valOp .eql x y = some (.bool b1) → (Op.equalIn (d + 1) f.type x y).run P w = .ok b1 w) → (Op.eqFields (d + 1) us vs (f :: fs)).run P w = .ok b w := by
        intro q ks' x xs' hf' hxs hk' hag he
        subst hxs
        cases ys with
        | nil => simp [cellsEq] at hc
        | cons y0 ys =>
          cases y0 with
          | v y =>
            simp only [cellsEq] at hc
            have h5 := hx 0 x rfl
            have h6 := hy 0 y rfl
            simp only [Nat.add_zero] at h5 h6
            split at hc
            · rename_i b1 hv
              simp only [Option.map_eq_some_iff] at hc
              obtain ⟨b2, hc, rfl⟩ := hc
              have ih := eqB_run w d fs (k + 1) xs' ys us vs b2 ks' hf' hk' hc (fun i x h => by have := hx (i + 1) x (by simpa using h); rwa [show k + 1 + i = k + (i + 1) by omega]) (fun i x h => by have := hy (i + 1) x (by simpa using h); rwa [show k + 1 + i = k + (i + 1) by omega])
              have hp : ∀ (cs : Array Value) z, cs[k]? = some z → (part f.type cs f.offset).run P w = .ok z w := fun cs z hz => by
                unfold part
                simp only [Sem.run_bind, hag, Result.andThen_ok, Bool.false_eq_true, if_false, h2, hz]
                rfl
              rw [Op.eqFields, if_pos h1]
              simp only [Sem.run_bind, hp us x h5, hp vs y h6, he y b1 hv, Result.andThen_ok]
              cases b1
              · simp
              · simpa using ih
            · simp at hc
          | _ => simp [cellsEq] at hc
      have shape : ∀ q ks', kindsB (q :: ks') xs = true → ∃ x xs', xs = .v x :: xs' ∧ kindsB ks' xs' = true ∧ (match q, x with | .bool, .bool _ => True | .int _, .int _ _ => True | .str, .string _ => True | _, _ => False) := by
        intro q ks' hk
        cases xs with
        | nil => cases q <;> simp [kindsB] at hk
        | cons x0 xs =>
          cases x0 with
          | v x => cases q <;> cases x <;> simp [kindsB] at hk <;> exact ⟨_, _, rfl, hk, trivial⟩
          | _ => cases q <;> simp [kindsB] at hk
      split at hf
      · rename_i ks' hu hf'
        obtain rfl := Option.some.inj hf
        obtain ⟨x, xs', rfl, hk', hm⟩ := shape _ _ hk
        refine main .bool ks' x xs' hf' rfl hk' (run_isAgg_plain hu rfl) (fun y b1 hv => ?_)
        cases x <;> simp at hm
        cases y <;> simp [valOp] at hv
        subst hv
        unfold Op.equalIn
        simp only [Sem.run_bind, run_underlying hu, Result.andThen_ok]
        rfl
      · rename_i ki ks' hu hf'
        obtain rfl := Option.some.inj hf
        obtain ⟨x, xs', rfl, hk', hm⟩ := shape _ _ hk
        refine main .bool ks' x xs' hf' rfl hk' (run_isAgg_plain hu rfl) (fun y b1 hv => ?_)
        cases x <;> simp at hm
        cases y <;> simp [valOp] at hv
        obtain ⟨rfl, hv⟩ := hv
        simp only [intOp, Option.some.injEq, Value.bool.injEq] at hv
        subst hv
        unfold Op.equalIn
        simp only [Sem.run_bind, run_underlying hu, Result.andThen_ok, if_true]
        rfl
      · rename_i ks' hu hf'
        obtain rfl := Option.some.inj hf
        obtain ⟨x, xs', rfl, hk', hm⟩ := shape _ _ hk
        refine main .bool ks' x xs' hf' rfl hk' (run_isAgg_plain hu rfl) (fun y b1 hv => ?_)
        cases x <;> simp at hm
        cases y <;> simp [valOp] at hv
        simp only [strOp, Option.some.injEq, Value.bool.injEq] at hv
        subst hv
        unfold Op.equalIn
        simp only [Sem.run_bind, run_underlying hu, Result.andThen_ok, ← beq_toListBytes]
        rfl
      · simp at hf
    · simp at hf

theorem eqB_ok {t : TypeId} {ks : List TK} (h : eqB P t = some ks) : EqOk P t ks := by
  unfold eqB at h
  split at h
  · rename_i fs hu
    split at h
    · rename_i hg
      simp only [Bool.and_eq_true, Bool.not_eq_true'] at hg
      intro xs ys us vs b hc hx hy hk hl hl' w
      have hf : P.fieldsOf t = fs := by simp [Program.fieldsOf, hu]
      have h1 : (eqGuard .eql t (.tmp 0) (.tmp 0) (.agg us.toArray) (.agg vs.toArray)).run P w = .ok () w := by
        unfold eqGuard
        show Sem.run P (do
          let __do_lift ← program
          let __do_lift_1 ← program
          if (!__do_lift.eqGuardType __do_lift_1.depth t) = true then pure ()
            else do
              let __do_lift ← Op.eqGuardIn Op.maxDepth t (Value.agg us.toArray) (Value.agg vs.toArray)
              if __do_lift = true then
                  unsupported
                    (Unsupported.noEntry
                      "binop/eql: two nil values of an interface type with methods, in a part of a struct or an array")
                else pure ()) w = _
        simp only [Bool.not_true, Bool.false_eq_true, if_false, Sem.run_bind, run_program, Result.andThen_ok, hg.1, Bool.not_false, if_true]
        rfl
      have h2 : (Op.equal t (.agg us.toArray) (.agg vs.toArray)).run P w = .ok b w := by
        show (Op.equalIn (9998 + 1 + 1) t (.agg us.toArray) (.agg vs.toArray)).run P w = .ok b w
        rw [run_equalIn_struct w _ t _ _ (by rw [hf]; exact hu) hg.2, hf]
        exact eqB_run w 9998 fs.toList 0 xs ys us.toArray vs.toArray b ks h hk hc (fun i x hi => by simpa using hx i x hi) (fun i x hi => by simpa using hy i x hi)
      simp only [Sem.run_bind, h1, Result.andThen_ok, h2]
    · simp at h
  · simp at h

end
end Go.Den

namespace Go.Den

/-- The loops of a code, each by its body, from the outside to the inside. -/
def loopsOf : Code → List Code
  | .seq a b => loopsOf a ++ loopsOf b
  | .cond _ a b => loopsOf a ++ loopsOf b
  | .block _ c => loopsOf c
  | .scope c => loopsOf c
  | .loop c => c :: loopsOf c
  | _ => []

/-- A region that may be done in its text's order. -/
theorem drawRun_nil {E : Env} {fi : FI} {call : CallF} {id : Nat} {ops : Array Oper} {s : St} (h : drawPairs fi ops = some []) : drawRun E fi call id ops s = runOps E fi call ops ops.toList s := by
  unfold drawRun; rw [h]

/-- All regions but those named in the text's order. -/
def undraw (ks : List Nat) : Code → Code
  | .region id ops d => .region id ops (d && ks.contains id)
  | .seq a b => .seq (undraw ks a) (undraw ks b)
  | .cond c a b => .cond c (undraw ks a) (undraw ks b)
  | .block id c => .block id (undraw ks c)
  | .loop c => .loop (undraw ks c)
  | .scope c => .scope (undraw ks c)
  | c => c

def plainB (fi : FI) (ks : List Nat) : Code → Bool
  | .region id ops d => !d || ks.contains id || (match drawPairs fi ops with | some [] => true | _ => false)
  | .seq a b => plainB fi ks a && plainB fi ks b
  | .cond _ a b => plainB fi ks a && plainB fi ks b
  | .block _ c => plainB fi ks c
  | .loop c => plainB fi ks c
  | .scope c => plainB fi ks c
  | _ => true

theorem den_undraw {E : Env} {fi : FI} {call : CallF} {it : IterF} {ks : List Nat} : ∀ (c : Code), plainB fi ks c = true →
    ∀ s, den E fi call (drawRun E fi call) it c s = den E fi call (drawRun E fi call) it (undraw ks c) s := by
  intro c
  induction c with
  | region id ops d =>
    intro h s
    cases d with
    | false => rfl
    | true =>
      simp only [undraw, Bool.true_and]
      cases hk : ks.contains id with
      | true => rfl
      | false =>
        simp only [plainB, Bool.not_true, Bool.false_or, hk] at h
        have hd : drawPairs fi ops = some [] := by
          split at h
          · assumption
          · simp at h
        simp only [den, drawRun_nil hd]
  | seq a b iha ihb =>
    intro h s
    simp only [plainB, Bool.and_eq_true] at h
    simp only [den, undraw]
    rw [← iha h.1 s]
    have : den E fi call (drawRun E fi call) it b = den E fi call (drawRun E fi call) it (undraw ks b) := funext (ihb h.2)
    rw [this]
  | cond x a b iha ihb =>
    intro h s
    simp only [plainB, Bool.and_eq_true] at h
    simp only [den, undraw]
    rw [← iha h.1 s, ← ihb h.2 s]
  | block id c ih =>
    intro h s
    simp only [plainB] at h
    simp only [den, undraw]
    rw [← ih h s]
  | loop c ih =>
    intro h s
    simp only [plainB] at h
    simp only [den, undraw]
    have : den E fi call (drawRun E fi call) it c = den E fi call (drawRun E fi call) it (undraw ks c) := funext (ih h)
    rw [this]
  | scope c ih =>
    intro h s
    simp only [plainB] at h
    simp only [den, undraw]
    exact ih h s
  | _ => intro _ s; rfl

/-- Code, without fuel. -/
noncomputable def denW (E : Env) (fi : FI) (c : Code) (s : St) : Option (Ex × St) := den E fi (FW E) (drawRun E fi (FW E)) iterW c s
noncomputable def loopW (E : Env) (fi : FI) (c : Code) (s : St) : Option (Ex × St) := iterW (denW E fi c) s
noncomputable def opsW (E : Env) (fi : FI) (ops : Array Oper) (os : List Oper) (s : St) : Option St := runOps E fi (FW E) ops os s

section
variable {E : Env} {fi : FI} {s : St}
theorem denW_skip : denW E fi .skip s = some (.normal, s) := rfl
theorem denW_label {l : Nat} : denW E fi (.label l) s = some (.normal, s) := rfl
theorem denW_exit {id : Nat} : denW E fi (.exit id) s = some (.exit id, s) := rfl
theorem denW_ret : denW E fi .ret s = some (.ret, s) := rfl
theorem denW_region {id : Nat} {ops : Array Oper} : denW E fi (.region id ops false) s = (opsW E fi ops ops.toList (s.keep fi id)).map fun s => (.normal, s) := rfl
theorem denW_draw {id : Nat} {ops : Array Oper} : denW E fi (.region id ops true) s = (drawRun E fi (FW E) id ops (s.keep fi id)).map fun s => (.normal, s) := rfl
theorem denW_seq {a b : Code} : denW E fi (.seq a b) s = match denW E fi a s with
    | some (.normal, s) => denW E fi b s
    | r => r := rfl
theorem denW_cond {x : Operand} {a b : Code} : denW E fi (.cond x a b) s = match s.opd 0 x with
    | .v (.bool true) => denW E fi a s
    | .v (.bool false) => denW E fi b s
    | _ => none := rfl
theorem denW_block {id : Nat} {c : Code} : denW E fi (.block id c) s = match denW E fi c s with
    | some (.exit j, s) => some (if j = id then .normal else .exit j, s)
    | r => r := rfl
theorem denW_scope {c : Code} : denW E fi (.scope c) s = denW E fi c s := rfl
theorem denW_loop {c : Code} : denW E fi (.loop c) s = loopW E fi c s := rfl
theorem loopW_next {c : Code} {s' : St} (h : denW E fi c s = some (.normal, s')) : loopW E fi c s = loopW E fi c s' := iterW_next h
theorem loopW_end {c : Code} {ex : Ex} {s' : St} (h : denW E fi c s = some (ex, s')) (hne : ex ≠ .normal) : loopW E fi c s = some (ex, s') := iterW_end h hne
theorem opsW_nil {ops : Array Oper} : opsW E fi ops [] s = some s := rfl
theorem opsW_cons {ops : Array Oper} {o : Oper} {os : List Oper} : opsW E fi ops (o :: os) s = match wantD ops o s with
    | none => none
    | some false => opsW E fi ops os (s.put o.dst (.tup []))
    | some true => match runOp E fi (FW E) o s with
      | none => none
      | some (d, c) => opsW E fi ops os ({ s with cs := c }.put o.dst d) := rfl
theorem wantD_none {ops : Array Oper} {dst : Option Tmp} {op : Op} {t : TypeId} {pos : String} {af : Array Edge} : wantD ops { dst := dst, op := op, type := t, pos := pos, after := af, guard := none } s = some true := rfl
end

theorem FW_run {E : Env} {fi : FI} {f : FuncId} {a : List D} {c : CS} (ks : List Nat) (ho : E.orc f = none) (hf : E.fn f = some fi) (hl : a.length = fi.np) (hp : plainB fi ks fi.body = true) :
    FW E f a c = finD E fi (denW E fi (undraw ks fi.body) ⟨a ++ List.replicate (fi.nt - fi.np) .dead, c⟩) := by
  rw [FW_eq ho hf hl, den_undraw _ hp]; rfl

def loopAt (ks : List Nat) (f : Func) (k : Nat) : Code := (loopsOf (undraw ks (f.body.getD .skip))).getD k .skip

end Go.Den

namespace Go.Den

def W (E : Env) (fi : FI) (c : Code) (s : St) (Q : Ex → St → Prop) : Prop := ∃ ex s', denW E fi c s = some (ex, s') ∧ Q ex s'

def thenQ (E : Env) (fi : FI) (b : Code) (Q : Ex → St → Prop) : Ex → St → Prop
  | .normal, s => W E fi b s Q
  | .exit j, s => Q (.exit j) s
  | .ret, s => Q .ret s
def blkQ (id : Nat) (Q : Ex → St → Prop) : Ex → St → Prop
  | .normal, s => Q .normal s
  | .exit j, s => if j = id then Q .normal s else Q (.exit j) s
  | .ret, s => Q .ret s
def resQ (E : Env) (fi : FI) (r : D × CS) : Ex → St → Prop
  | .exit _, _ => False
  | _, s => (resultsD E fi s).map (fun d => (d, s.cs)) = some r

section
variable {E : Env} {fi : FI} {s : St} {Q : Ex → St → Prop}
theorem thenQ_normal {b : Code} : thenQ E fi b Q .normal s = W E fi b s Q := rfl
theorem thenQ_exit {b : Code} {j : Nat} : thenQ E fi b Q (.exit j) s = Q (.exit j) s := rfl
theorem thenQ_ret {b : Code} : thenQ E fi b Q .ret s = Q .ret s := rfl
theorem blkQ_normal {id : Nat} : blkQ id Q .normal s = Q .normal s := rfl
theorem blkQ_exit {id j : Nat} : blkQ id Q (.exit j) s = if j = id then Q .normal s else Q (.exit j) s := rfl
theorem blkQ_ret {id : Nat} : blkQ id Q .ret s = Q .ret s := rfl
theorem resQ_normal {r : D × CS} : resQ E fi r .normal s = ((resultsD E fi s).map (fun d => (d, s.cs)) = some r) := rfl
theorem resQ_ret {r : D × CS} : resQ E fi r .ret s = ((resultsD E fi s).map (fun d => (d, s.cs)) = some r) := rfl

theorem W_of {c : Code} {ex : Ex} {s' : St} (h : denW E fi c s = some (ex, s')) : W E fi c s Q ↔ Q ex s' := by
  constructor
  · rintro ⟨ex', s1, h1, hq⟩
    rw [h] at h1
    obtain ⟨rfl, rfl⟩ := Prod.mk.inj (Option.some.inj h1)
    exact hq
  · exact fun hq => ⟨_, _, h, hq⟩
theorem W_none {c : Code} (h : denW E fi c s = none) : W E fi c s Q ↔ False := by
  constructor
  · rintro ⟨ex', s1, h1, hq⟩
    rw [h] at h1; simp at h1
  · exact False.elim

theorem W_skip : W E fi .skip s Q ↔ Q .normal s := W_of rfl
theorem W_label {l : Nat} : W E fi (.label l) s Q ↔ Q .normal s := W_of rfl
theorem W_exit {id : Nat} : W E fi (.exit id) s Q ↔ Q (.exit id) s := W_of rfl
theorem W_ret : W E fi .ret s Q ↔ Q .ret s := W_of rfl
theorem W_region {id : Nat} {ops : Array Oper} : W E fi (.region id ops false) s Q ↔ match opsW E fi ops ops.toList (s.keep fi id) with
    | some s' => Q .normal s'
    | none => False := by
  split
  · rename_i s' h; exact W_of (by rw [denW_region, h]; rfl)
  · rename_i h; exact W_none (by rw [denW_region, h]; rfl)
theorem W_draw {id : Nat} {ops : Array Oper} : W E fi (.region id ops true) s Q ↔ match drawRun E fi (FW E) id ops (s.keep fi id) with
    | some s' => Q .normal s'
    | none => False := by
  split
  · rename_i s' h; exact W_of (by rw [denW_draw, h]; rfl)
  · rename_i h; exact W_none (by rw [denW_draw, h]; rfl)
theorem W_seq {a b : Code} : W E fi (.seq a b) s Q ↔ W E fi a s (thenQ E fi b Q) := by
  cases h : denW E fi a s with
  | none => rw [W_none h, W_none (by rw [denW_seq, h])]
  | some r =>
    obtain ⟨ex, s'⟩ := r
    rw [W_of h]
    cases ex with
    | normal =>
      rw [thenQ_normal]
      unfold W
      rw [denW_seq, h]
    | exit j => rw [thenQ_exit]; exact W_of (by rw [denW_seq, h])
    | ret => rw [thenQ_ret]; exact W_of (by rw [denW_seq, h])
theorem W_cond {x : Operand} {a b : Code} : W E fi (.cond x a b) s Q ↔ match s.opd 0 x with
    | .v (.bool t) => if t = true then W E fi a s Q else W E fi b s Q
    | _ => False := by
  split
  · rename_i t h
    cases t with
    | true => simp only [if_true]; unfold W; rw [denW_cond, h]
    | false => simp only [Bool.false_eq_true, if_false]; unfold W; rw [denW_cond, h]
  · rename_i hne
    refine W_none ?_
    rw [denW_cond]
    split
    · rename_i h; exact absurd h (hne _)
    · rename_i h; exact absurd h (hne _)
    · rfl
theorem W_block {id : Nat} {c : Code} : W E fi (.block id c) s Q ↔ W E fi c s (blkQ id Q) := by
  cases h : denW E fi c s with
  | none => rw [W_none h, W_none (by rw [denW_block, h])]
  | some r =>
    obtain ⟨ex, s'⟩ := r
    rw [W_of h]
    cases ex with
    | normal => exact W_of (by rw [denW_block, h])
    | exit j =>
      rw [blkQ_exit, W_of (by rw [denW_block, h])]
      split <;> rfl
    | ret => exact W_of (by rw [denW_block, h])
theorem W_scope {c : Code} : W E fi (.scope c) s Q ↔ W E fi c s Q := Iff.rfl

/-- A loop, by what is known of it. -/
theorem W_loop {c c' : Code} {R : Ex → St → Prop} (h : ∃ ex s', loopW E fi c' s = some (ex, s') ∧ R ex s') (hc : c' = c) (k : ∀ ex s', R ex s' → Q ex s') : W E fi (.loop c) s Q := by
  subst hc
  obtain ⟨ex, s', h1, h2⟩ := h
  exact ⟨ex, s', h1, k _ _ h2⟩

/-- A loop by its rounds: J at n holds ahead of a round. -/
theorem loop_rule {c : Code} {R : Ex → St → Prop} (J : Nat → St → Prop) (h : ∀ n s, J n s → W E fi c s (fun ex s' => match ex with | .normal => ∃ m, m < n ∧ J m s' | ex => R ex s')) :
    ∀ n s, J n s → ∃ ex s', loopW E fi c s = some (ex, s') ∧ R ex s' := by
  intro n
  induction n using Nat.strongRecOn with
  | _ n ih =>
    intro s hJ
    obtain ⟨ex, s', h1, h2⟩ := h n s hJ
    cases ex with
    | normal =>
      obtain ⟨m, hm, hJ'⟩ := h2
      rw [loopW_next h1]
      exact ih m hm s' hJ'
    | exit j => exact ⟨_, _, loopW_end h1 (by simp), h2⟩
    | ret => exact ⟨_, _, loopW_end h1 (by simp), h2⟩

theorem FW_W {f : FuncId} {a : List D} {c : CS} {r : D × CS} (ks : List Nat) (ho : E.orc f = none) (hf : E.fn f = some fi) (hl : a.length = fi.np) (hp : plainB fi ks fi.body = true)
    (h : W E fi (undraw ks fi.body) ⟨a ++ List.replicate (fi.nt - fi.np) .dead, c⟩ (resQ E fi r)) : FW E f a c = some r := by
  rw [FW_run ks ho hf hl hp]
  obtain ⟨ex, s', h1, h2⟩ := h
  rw [h1]
  cases ex with
  | normal => exact h2
  | exit j => exact h2.elim
  | ret => exact h2
end
end Go.Den

namespace Go.Den
open Go.RowKit
section
variable {P : Program} {E : Env} {c : CS} {g : Gh} {w : World}

def Env.noOrc (E : Env) : Env := { E with orc := fun _ => none }

theorem V_orc (o : FuncId → Option (List D → CS → Option (D × CS))) {d : D} {v : Value} (h : V E c g w d v) : V { E with orc := o } c g w d v := by
  induction h with
  | v h => exact .v h
  | agg h _ ih => exact .agg h ih
  | tup h _ ih => exact .tup h ih
  | fn h _ ih => exact .fn h ih
  | dead => exact .dead
  | gptr => exact .gptr
  | ptr hs => exact .ptr hs
  | rm a cap hcap hnone hk htok => exact .rm a cap hcap hnone hk htok
  | eptr b o f hcell _ ih => exact .eptr b o f hcell ih
  | mp es clock hb hw h => exact .mp es clock hb hw h
  | ref a cap hs h => exact .ref a cap hs h
  | sl a cap f hcap hnone hz hsome hcell _ hk h1 htok ih => exact .sl a cap f hcap hnone hz hsome hcell ih hk h1 htok

theorem Inv_orc (o : FuncId → Option (List D → CS → Option (D × CS))) (h : Inv E c g w) : Inv { E with orc := o } c g w where
  mb := h.mb
  base := h.base
  nx := h.nx
  hp := fun s ob hs => by
    obtain ⟨h1, h2, h3, ⟨cs, T, h4, h5, h6⟩, h7⟩ := h.hp s ob hs
    exact ⟨h1, h2, h3, ⟨cs, T, h4, h5, fun j d hj => V_orc o (h6 j d hj)⟩, h7⟩
  inj := h.inj
  tk := h.tk
  tinj := h.tinj
  apart := h.apart
  S := h.S
  gl := fun n cs hn => by
    obtain ⟨h1, h2⟩ := h.gl n cs hn
    refine ⟨h1, fun j d hj => ?_⟩
    obtain ⟨x, h3, h4, h5⟩ := h2 j d hj
    exact ⟨x, h3, V_orc o h4, h5⟩
  one := h.one

theorem Ans_orc {o : FuncId → Option (List D → CS → Option (D × CS))} {f : FuncId} {args : List D} {c : CS} {r : D} {c' : CS} (h : AnsOk P E f args c r c') : AnsOk P { E with orc := o } f args c r c' := by
  intro g w vs hI hl hv
  have hI' : Inv E c g w := by
    have := Inv_orc E.orc hI
    exact this
  have hv' : ∀ (i : Nat) d, args[i]? = some d → V E c g w d (vs.getD i undef) := fun i d hi => by
    have := V_orc E.orc (hv i d hi)
    exact this
  refine (h g w vs hI' hl hv').mono ?_
  rintro e w' ⟨x, g', rfl, hx, hI2, he⟩
  exact ⟨x, g', rfl, V_orc o hx, Inv_orc o hI2, he⟩

/-- Oracles that are shown without oracles. -/
theorem EnvOk.withOrc (hE : EnvOk P E) {o : FuncId → Option (List D → CS → Option (D × CS))} (h : ∀ f q, o f = some q → ∀ args c r c', q args c = some (r, c') → HasBody P f ∧ AnsOk P E f args c r c') : EnvOk P { E with orc := o } where
  ty := hE.ty
  fn := hE.fn
  mixed := hE.mixed
  eq := hE.eq
  orc := fun f q hf args c r c' hr => ⟨(h f q hf args c r c' hr).1, Ans_orc (h f q hf args c r c' hr).2⟩
  ext := fun f q hf args r hr c g w vs hI hl hv => by
    have hI' : Inv E c g w := by
      have := Inv_orc E.orc hI
      exact this
    obtain ⟨x, h1, h2⟩ := hE.ext f q hf args r hr c g w vs hI' hl (fun i d hi => by
      have := V_orc E.orc (hv i d hi)
      exact this)
    exact ⟨x, h1, V_orc o h2⟩
  glOne := hE.glOne

end
end Go.Den

namespace Go.Den
open Go.RowKit

/-- The code of slices.Clone at the slice type t (b: bool). -/
def cloneBody (t b : TypeId) : Code :=
  .seq (.region 0 #[{ dst := some 2, op := .assign (.const (.slice none 0 0)), type := t, pos := "slices.go:355", after := #[], guard := none }] false)
  (.seq (.seq (.region 1 #[{ dst := some 3, op := .move (.tmp 0), type := t, pos := "slices.go:357", after := #[], guard := none },
      { dst := some 4, op := .binOp .eql t (.tmp 3) (.const (.slice none 0 0)) t, type := b, pos := "slices.go:357", after := #[{ on := 0, ground := .data }], guard := none }] false)
    (.cond (.tmp 4) (.seq (.region 2 #[{ dst := some 2, op := .assign (.const (.slice none 0 0)), type := t, pos := "slices.go:358", after := #[], guard := none }] false) .ret) .skip))
  (.seq (.region 3 #[{ dst := some 5, op := .buildSlice t 0 #[], type := t, pos := "slices.go:362", after := #[], guard := none },
      { dst := some 6, op := .move (.tmp 0), type := t, pos := "slices.go:362", after := #[], guard := none },
      { dst := some 7, op := .call { callee := .builtin .append, args := #[.tmp 5, .tmp 6], argTypes := #[t, t] }, type := t, pos := "slices.go:362", after := #[{ on := 0, ground := .data }, { on := 1, ground := .data }], guard := none },
      { dst := some 2, op := .assign (.tmp 7), type := t, pos := "slices.go:362", after := #[{ on := 2, ground := .data }, { on := 2, ground := .chain }, { on := 0, ground := .phase }, { on := 1, ground := .phase }, { on := 2, ground := .phase }], guard := none }] false) .ret))

end Go.Den

namespace Go.Den

attribute [simp] W_seq W_cond W_block W_region W_skip W_exit W_ret W_label W_scope thenQ_normal thenQ_exit thenQ_ret blkQ_normal blkQ_exit blkQ_ret resQ_normal resQ_ret
  opsW_nil opsW_cons wantD_none runOp St.put St.opd argL builtinD elemZ ofConst flatB binD valOp intOp indexAddrD loadD dload undraw loopsOf loopAt keepL
  sliceD bnd dInt unD convD fieldAddrD buildD placesD fillD putCells buildSliceD storeD resL resD

theorem callD_pure' {E : Env} {call : CallF} {t : TypeId} {f : FuncId} {args : List D} {c : CS} : callD E call .pure t f args c = (pcall E call f args).map fun r => (unmark r, c) := rfl
@[simp] theorem callD_raw' {E : Env} {call : CallF} {t : TypeId} {f : FuncId} {args : List D} {c : CS} : callD E call .raw t f args c = call f args c := rfl

@[simp] theorem cellB_v {x : Value} : (D.v x).cellB = true := rfl
@[simp] theorem cellB_sl {k z : Nat} {l : List D} : (D.sl k z l).cellB = true := rfl
@[simp] theorem cellB_ref {s o n : Nat} : (D.ref s o n).cellB = true := rfl
@[simp] theorem cellB_ptr {s o : Nat} : (D.ptr s o).cellB = true := rfl
@[simp] theorem cellB_mp {m : Nat} : (D.mp m).cellB = true := rfl
@[simp] theorem cellB_fn {f : FuncId} {cs : List D} : (D.fn f cs).cellB = true := rfl
@[simp] theorem cells_agg {cs : List D} : (D.agg cs).cells = cs := rfl
@[simp] theorem cells_v {x : Value} : (D.v x).cells = [.v x] := rfl
@[simp] theorem cells_sl {k z : Nat} {l : List D} : (D.sl k z l).cells = [.sl k z l] := rfl
@[simp] theorem cells_ref {s o n : Nat} : (D.ref s o n).cells = [.ref s o n] := rfl
@[simp] theorem cells_ptr {s o : Nat} : (D.ptr s o).cells = [.ptr s o] := rfl
@[simp] theorem cells_mp {m : Nat} : (D.mp m).cells = [.mp m] := rfl
@[simp] theorem cells_fn {f : FuncId} {cs : List D} : (D.fn f cs).cells = [.fn f cs] := rfl

/-- A call by itself, by what its code answers at fresh marks. -/
theorem pcall_of {E : Env} {f : FuncId} {args nargs : List D} {r r' : D} {c : CS} (hn : args.map D.norm = nargs) (h : FW E f nargs .fresh = some (r, c)) (hr : c.out E r = some r') : pcall E (FW E) f args = some r' := by
  unfold pcall
  rw [hn]
  simp only [h, hr]

/-- Some answer of which P holds. -/
def resP (E : Env) (fi : FI) (P : D → CS → Prop) : Ex → St → Prop
  | .exit _, _ => False
  | _, s => ∃ d, resultsD E fi s = some d ∧ P d s.cs
@[simp] theorem resP_normal {E : Env} {fi : FI} {P : D → CS → Prop} {s : St} : resP E fi P .normal s = ∃ d, resultsD E fi s = some d ∧ P d s.cs := rfl
@[simp] theorem resP_ret {E : Env} {fi : FI} {P : D → CS → Prop} {s : St} : resP E fi P .ret s = ∃ d, resultsD E fi s = some d ∧ P d s.cs := rfl

theorem FW_P {E : Env} {fi : FI} {f : FuncId} {a : List D} {c : CS} {P : D → CS → Prop} (ks : List Nat) (ho : E.orc f = none) (hf : E.fn f = some fi) (hl : a.length = fi.np) (hp : plainB fi ks fi.body = true)
    (h : W E fi (undraw ks fi.body) ⟨a ++ List.replicate (fi.nt - fi.np) .dead, c⟩ (resP E fi P)) : ∃ d c', FW E f a c = some (d, c') ∧ P d c' := by
  rw [FW_run ks ho hf hl hp]
  obtain ⟨ex, s', h1, h2⟩ := h
  rw [h1]
  cases ex with
  | normal => obtain ⟨d, h3, h4⟩ := h2; exact ⟨d, s'.cs, by simp [finD, h3], h4⟩
  | exit j => exact h2.elim
  | ret => obtain ⟨d, h3, h4⟩ := h2; exact ⟨d, s'.cs, by simp [finD, h3], h4⟩

end Go.Den

namespace Go.Den
open Go.RowKit Go.ChangeShapes Go.WideShapes

section
variable {H : Type} {enc : TypeId × Value → H} {P : Program} {E : Env}

/-- The ghosts where a row begins. -/
def Gh.start (W : World) : Gh := ⟨fun b _ => b < W.heap.size, fun _ => 0, fun _ => none, fun _ => 0, W.heap.size, W.heap.size⟩

theorem start_inv {W : World} (hgl : ∀ n cs, E.gl n = some cs → n < W.heap.size ∧ ∀ (j : Nat) d, cs[j]? = some d → ∃ x, W.cell? ⟨n, j, none⟩ = some x ∧ V E .fresh (Gh.start W) W d x) : Inv E .fresh (Gh.start W) W where
  mb := Nat.le_refl _
  base := Nat.le_refl _
  nx := Nat.le_refl _
  hp := fun s o h => by simp [CS.fresh] at h
  inj := fun s s' o o' h => by simp [CS.fresh] at h
  tk := fun k n h => by simp [CS.fresh] at h
  tinj := fun k k' n n' b h => by simp [CS.fresh] at h
  apart := fun k n b s o h => by simp [CS.fresh] at h
  S := fun b j h => h
  gl := fun n cs h => by
    obtain ⟨k1, k2⟩ := hgl n cs h
    refine ⟨k1, fun j d hj => ?_⟩
    obtain ⟨x, h3, h4⟩ := k2 j d hj
    exact ⟨x, h3, h4, k1⟩
  one := fun s o h => by simp [CS.fresh] at h

theorem Evo.below {g g' : Gh} {c c' : CS} {w w' : World} (h : Evo g c w g' c' w') : Below g.base w w' := ⟨h.os, h.tape, h.output, h.size, h.low⟩

/-- A law that answers true. -/
theorem law_calls (hE : EnvOk P E) {f : FuncId} {args : List D} {c' : CS} (h : FW E f args .fresh = some (.v (.bool true), c')) {W : World} {vs : List Value}
    (hI : Inv E .fresh (Gh.start W) W) (hl : args.length = vs.length) (hv : ∀ (i : Nat) d, args[i]? = some d → V E .fresh (Gh.start W) W d (vs.getD i undef)) :
    Calls P f vs.toArray W fun e W' => e = .returned (.bool true) ∧ Below W.heap.size W W' := by
  refine ((FW_ok hE f args .fresh _ _ h).2 (Gh.start W) W vs hI hl hv).mono ?_
  rintro e w' ⟨x, g', rfl, hx, _, hev⟩
  obtain ⟨rfl, _⟩ := hx.v_inv
  exact ⟨rfl, hev.below⟩

/-- What a row that leaves its arguments as they were owes. -/
theorem law_post (hl : laidOutB P = true) {f : Func} {s : ChangeSpec} {W W' : World} {args : Array Value} {ds gs : List (DataW H)} {before : List MemPlace} {tb : TypeId}
    (hW : DataW.Whole enc P f.params.toList s.vars false W args.toList ds gs before) (hv : s.vars = [])
    (hs : s.fn H ds = { results := [.lit (.bool true)], args := ds }) (hr : f.resultTypes = #[tb]) (hb : P.underlying tb = some .bool)
    (hp : f.params.toList.all (fun t => P.readableRec t && decide (t < P.types.size)) = true) (hB : Below W.heap.size W W') :
    s.post enc P f false true false false W args (.bool true) W' := by
  have hlt : ∀ p ∈ before, p.block < W.heap.size := fun p hp => hW.lt p hp
  have hW0 := hW
  obtain ⟨p, q, hA, hV, hbe, hz, hn⟩ := hW
  rw [hv] at hV
  obtain ⟨rfl, rfl⟩ : gs = [] ∧ q = [] := by
    cases gs with
    | nil => exact ⟨rfl, hV⟩
    | cons _ _ => exact hV.elim
  have hargs : DataW.TrodAll enc P W' 0 (fun b => decide (b < W.heap.size)) true f.params.toList args.toList ds p := by
    have key : ∀ (ts : List TypeId) (vs : List Value) (ds : List (DataW H)) (p : List MemPlace), ts.all (fun t => P.readableRec t && decide (t < P.types.size)) = true → (∀ x ∈ p, x.block < W.heap.size) →
        DataW.TrodAll enc P W 0 (fun _ => true) true ts vs ds p → DataW.TrodAll enc P W' 0 (fun b => decide (b < W.heap.size)) true ts vs ds p := by
      intro ts
      induction ts with
      | nil => intro vs ds p _ _ h; obtain ⟨rfl, rfl, rfl⟩ := trodAll_nil h; exact trodAll_mk0
      | cons t ts ih =>
        intro vs ds p ht hx h
        obtain ⟨v, vs', d, ds', p', q', rfl, rfl, rfl, h1, h2⟩ := trodAll_cons h
        simp only [List.all_cons, Bool.and_eq_true, decide_eq_true_eq] at ht
        refine ⟨p', q', Below.trod hl ht.1.1 ht.1.2 h1 hB (fun x hm => hx x (by simp [hm])), ih _ _ _ (by simpa using ht.2) (fun x hm => hx x (by simp [hm])) h2, rfl⟩
    refine key _ _ _ _ hp (fun x hx => hlt x (by rw [hbe]; simp [hx])) hA
  refine ⟨ds, [], before, [], p, [], hW0, ?_, ?_, ?_, World.keptBut_mono (fun x hx => ⟨hx, .inr (.inl ?_)⟩) (hB.frame (· ∈ before)), fun h => by simp at h⟩
  · rw [List.append_nil, hs, hr]
    refine ⟨[], [], ⟨1, ?_⟩, rfl, rfl⟩
    simp [Value.resultList, Value.cells, DataW.trod, hb]
  · rw [List.append_nil, hs]; exact hargs
  · rw [hv, List.append_nil, hs]; exact rfl
  · rw [hbe] at hx; simpa using hx

end
end Go.Den

namespace Go.Den
open Go.RowKit Go.ChangeShapes Go.WideShapes

mutual
/-- How much there is of a value. -/
def D.bulk : D → Nat
  | .v (.string s) => s.size + 1
  | .agg cs => D.bulkL cs
  | .sl _ _ l => D.bulkL l + 1
  | _ => 1
def D.bulkL : List D → Nat
  | [] => 0
  | d :: ds => d.bulk + D.bulkL ds
end
mutual
/-- Numbers within their kinds. -/
def D.wfB : D → Bool
  | .v (.int k n) => (Lit.int k n).wf
  | .agg cs => D.wfL cs
  | .sl _ _ l => D.wfL l
  | _ => true
def D.wfL : List D → Bool
  | [] => true
  | d :: ds => d.wfB && D.wfL ds
end

section
variable {H : Type}
mutual
/-- As the rows count. -/
def bulkW : DataW H → Nat
  | .lit (.string b) => b.length + 1
  | .lit _ => 1
  | .nil => 1
  | .ptr d => bulkW d + 1
  | .slice elems spare => bulkWs elems + bulkWs spare + 1
  | .agg parts => bulkWs parts + 1
  | .iface _ d => bulkW d + 1
  | .map _ => 1
  | .held _ => 1
def bulkWs : List (DataW H) → Nat
  | [] => 0
  | d :: ds => bulkW d + bulkWs ds
end

variable {enc : TypeId × Value → H} {P : Program} {E : Env} {W : World}

def VL (E : Env) (W : World) (xs : List D) (vs : List Value) : Prop := xs.length = vs.length ∧ ∀ (j : Nat) d, xs[j]? = some d → V E .fresh (Gh.start W) W d (vs.getD j undef)

/-- What is read at a type is some x of T, by its cells. -/
def Rd (enc : TypeId × Value → H) (P : Program) (E : Env) (W : World) {T : Type} (N : Nat) (t : TypeId) (emb : T → List D) : Prop :=
  ∀ n, n ≤ N → ∀ cs d ps, DataW.trod enc P W 0 (fun _ => true) true n t cs = some (d, ps) → ∃ x : T, VL E W (emb x) cs ∧ D.bulkL (emb x) ≤ bulkW d ∧ D.wfL (emb x) = true

theorem Rd.mono {T : Type} {N M : Nat} {t : TypeId} {emb : T → List D} (h : Rd enc P E W N t emb) (hm : M ≤ N) : Rd enc P E W M t emb := fun n hn => h n (Nat.le_trans hn hm)

theorem VL.one {d : D} {v : Value} (h : V E .fresh (Gh.start W) W d v) : VL E W [d] [v] := ⟨rfl, fun j x hj => by
  cases j with
  | zero => simp at hj; subst hj; exact h
  | succ j => simp at hj⟩
theorem VL.nil : VL E W [] [] := ⟨rfl, fun j x hj => by simp at hj⟩
theorem VL.app {a b : List D} {us vs : List Value} (h : VL E W a us) (k : VL E W b vs) : VL E W (a ++ b) (us ++ vs) := by
  refine ⟨by simp [h.1, k.1], fun j d hj => ?_⟩
  by_cases hlt : j < a.length
  · rw [List.getElem?_append_left hlt] at hj
    have := h.2 j d hj
    rw [List.getD_eq_getElem?_getD, List.getElem?_append_left (by rw [← h.1]; exact hlt), ← List.getD_eq_getElem?_getD]
    exact this
  · rw [List.getElem?_append_right (by omega)] at hj
    have := k.2 _ d hj
    rw [List.getD_eq_getElem?_getD, List.getElem?_append_right (by rw [← h.1]; omega), ← h.1, ← List.getD_eq_getElem?_getD]
    exact this
/-- The front of some cells, and the rest. -/
theorem VL.cut {a b : List D} {vs : List Value} {n : Nat} (h : VL E W a (vs.take n)) (k : VL E W b (vs.drop n)) : VL E W (a ++ b) vs := by
  have := h.app k
  rwa [List.take_append_drop] at this

theorem bulkL_app (a b : List D) : D.bulkL (a ++ b) = D.bulkL a + D.bulkL b := by
  induction a with
  | nil => simp [D.bulkL]
  | cons x a ih => simp only [List.cons_append, D.bulkL, ih]; omega
theorem wfL_app (a b : List D) : D.wfL (a ++ b) = (D.wfL a && D.wfL b) := by
  induction a with
  | nil => simp [D.wfL]
  | cons x a ih => simp only [List.cons_append, D.wfL, ih, Bool.and_assoc]

theorem rd_int {N : Nat} {t : TypeId} {k : IntKind} (ht : P.underlying t = some (.int k)) : Rd enc P E W N t (fun n : Int => [.v (.int k n)]) := fun n _ cs d ps h => by
  obtain ⟨x, rfl, hx, hw⟩ := DataW.trod_int ht h
  obtain ⟨rfl, rfl⟩ := Prod.mk.inj hx
  exact ⟨x, VL.one (.v rfl), by simp [D.bulkL, D.bulk, bulkW], by simp [D.wfL, D.wfB, hw]⟩
theorem rd_bool {N : Nat} {t : TypeId} (ht : P.underlying t = some .bool) : Rd enc P E W N t (fun b : Bool => [.v (.bool b)]) := fun n _ cs d ps h => by
  obtain ⟨x, rfl, hx⟩ := DataW.trod_bool ht h
  obtain ⟨rfl, rfl⟩ := Prod.mk.inj hx
  exact ⟨x, VL.one (.v rfl), by simp [D.bulkL, D.bulk, bulkW], by simp [D.wfL, D.wfB]⟩
theorem rd_str {N : Nat} {t : TypeId} (ht : P.underlying t = some .string) : Rd enc P E W N t (fun s : ByteArray => [.v (.string s)]) := fun n _ cs d ps h => by
  obtain ⟨x, rfl, hx, _⟩ := DataW.trod_string ht h
  obtain ⟨rfl, rfl⟩ := Prod.mk.inj hx
  refine ⟨x, VL.one (.v rfl), ?_, by simp [D.wfL, D.wfB]⟩
  simp only [D.bulkL, D.bulk, bulkW, Array.length_toList]
  exact Nat.le_refl _

theorem VL.sub {a : List D} {vs : List Value} (h : VL E W a vs) {j : Nat} {d : D} (hj : a[j]? = some d) : V E .fresh (Gh.start W) W d (vs.getD j undef) := h.2 j d hj

theorem bulkWs_get {l : List (DataW H)} {T : Type} (f : T → Nat) (xs : List T) (hl : xs.length = l.length) (h : ∀ (i : Nat) x d, xs[i]? = some x → l[i]? = some d → f x ≤ bulkW d) : (xs.map f).sum ≤ bulkWs l := by
  induction l generalizing xs with
  | nil => cases xs with
    | nil => simp [bulkWs]
    | cons _ _ => simp at hl
  | cons d l ih => cases xs with
    | nil => simp at hl
    | cons x xs =>
      simp only [List.map_cons, List.sum_cons, bulkWs]
      have h1 := h 0 x d rfl rfl
      have h2 := ih xs (by simpa using hl) (fun i x d a b => h (i + 1) x d (by simpa using a) (by simpa using b))
      omega

theorem bulkL_map {T : Type} (f : T → D) (l : List T) : D.bulkL (l.map f) = (l.map fun x => (f x).bulk).sum := by
  induction l with
  | nil => simp [D.bulkL]
  | cons x l ih => simp [D.bulkL, ih]
theorem wfL_map {T : Type} (f : T → D) (l : List T) : D.wfL (l.map f) = l.all fun x => (f x).wfB := by
  induction l with
  | nil => simp [D.wfL]
  | cons x l ih => simp [D.wfL, ih]

/-- The elements, one by one. -/
theorem exists_list {T A : Type} {l : List A} {p : A → T → Prop} (h : ∀ a ∈ l, ∃ x, p a x) : ∃ xs : List T, xs.length = l.length ∧ ∀ (i : Nat) a x, l[i]? = some a → xs[i]? = some x → p a x := by
  induction l with
  | nil => exact ⟨[], rfl, fun i a x h => by simp at h⟩
  | cons a l ih =>
    obtain ⟨x, hx⟩ := h a List.mem_cons_self
    obtain ⟨xs, h1, h2⟩ := ih fun b hb => h b (List.mem_cons_of_mem _ hb)
    refine ⟨x :: xs, by simp [h1], fun i b y hb hy => ?_⟩
    cases i with
    | zero => simp at hb hy; subst hb hy; exact hx
    | succ i => exact h2 i b y (by simpa using hb) (by simpa using hy)

theorem addr_add (b off n : Nat) : (⟨b, off, none⟩ : Addr).add n = ⟨b, off + n, none⟩ := by
  unfold Addr.add
  split
  · rename_i h; subst h; rfl
  · rfl
theorem addr_add0 (a : Addr) : a.add 0 = a := by
  simp [Addr.add]
theorem addr_block (a : Addr) (n : Nat) : (a.add n).block = a.block := by
  unfold Addr.add
  split <;> rfl

theorem rd_slice {T : Type} {N : Nat} {t e : TypeId} {z : Nat} {emb : T → List D} (f : T → D) (ht : P.underlying t = some (.slice e)) (hz : P.cellsOf e = z) (h0 : 0 < z)
    (hf : ∀ x, (f x).cells = emb x) (hfb : ∀ x, (f x).bulk = D.bulkL (emb x)) (hfw : ∀ x, (f x).wfB = D.wfL (emb x)) (he : Rd enc P E W N e emb) : Rd enc P E W (N + 1) t (fun l : List T => [.sl 0 z (l.map f)]) := by
  intro n hn cs d ps h
  rcases DataW.trod_slice ht h with ⟨rfl, hx⟩ | ⟨a, len, cap, elems, rest, m, rfl, rfl, hx, hb, hlc, hcm, hel, hall, _, _⟩
  · obtain ⟨rfl, rfl⟩ := Prod.mk.inj hx
    refine ⟨[], VL.one ?_, by simp [D.bulkL, D.bulk, bulkW], by simp [D.wfL, D.wfB]⟩
    exact .sl (l := []) none 0 (fun _ _ => undef) (Nat.le_refl _) (fun _ => rfl) (by simp) (by simp) (by simp) (by simp) (by show 0 < 2; omega) (by simp) (by omega)
  · obtain ⟨rfl, rfl⟩ := Prod.mk.inj hx
    rw [hz] at hall
    -- each element, with its cells
    have key : ∀ p ∈ (List.range len).map (fun i => (i, elems[i]?)), ∃ y : T × List Value × (DataW H × List MemPlace), p.2 = some y.2.2 ∧ W.cells? 0 (a.add (p.1 * z)) z = some y.2.1 ∧
        VL E W (emb y.1) y.2.1 ∧ D.bulkL (emb y.1) ≤ bulkW y.2.2.1 ∧ D.wfL (emb y.1) = true := by
      intro p hp
      obtain ⟨i, hi, rfl⟩ := List.mem_map.1 hp
      have hi' : i < len := List.mem_range.1 hi
      have h1 := hall i hi'
      have hsome : elems[i]? = some elems[i] := List.getElem?_eq_getElem (by omega)
      rw [hsome] at h1
      simp only [Option.bind_eq_some_iff] at h1
      obtain ⟨vs, hvs, htr⟩ := h1
      obtain ⟨x, k1, k2, k3⟩ := he m (by omega) vs elems[i].1 elems[i].2 htr
      exact ⟨(x, vs, elems[i]), hsome, hvs, k1, k2, k3⟩
    obtain ⟨ys, hlen, hys⟩ := exists_list key
    simp only [List.length_map, List.length_range] at hlen
    have hyi : ∀ (i : Nat) y, ys[i]? = some y → i < len ∧ elems[i]? = some y.2.2 ∧ W.cells? 0 (a.add (i * z)) z = some y.2.1 ∧ VL E W (emb y.1) y.2.1 ∧ D.bulkL (emb y.1) ≤ bulkW y.2.2.1 ∧ D.wfL (emb y.1) = true := by
      intro i y hy
      have hi : i < len := by rw [← hlen]; exact (List.getElem?_eq_some_iff.1 hy).1
      exact ⟨hi, hys i (i, elems[i]?) y (by simp [hi]) hy⟩
    have hcell : ∀ (i : Nat) y (j : Nat), ys[i]? = some y → j < z → ∃ v, y.2.1[j]? = some v ∧ W.cell? ((a.add (i * z)).add j) = some v := by
      intro i y j hy hj
      obtain ⟨_, _, h3, _⟩ := hyi i y hy
      obtain ⟨_, k2, k3⟩ := World.cells?_some h3
      have hjl : j < y.2.1.length := by omega
      refine ⟨y.2.1[j], List.getElem?_eq_getElem hjl, ?_⟩
      have := k3 j hj
      rw [List.getElem?_eq_getElem hjl] at this
      exact this
    have hspot : ys ≠ [] → a.spot = none := by
      intro hne
      cases ys with
      | nil => exact absurd rfl hne
      | cons y ys =>
        obtain ⟨v, _, hv⟩ := hcell 0 y 0 rfl h0
        rw [Nat.zero_mul, addr_add0, addr_add0] at hv
        exact World.cell?_spot hv
    have hblk : ∀ (i : Nat) y, ys[i]? = some y → a.block < W.heap.size := by
      intro i y hy
      obtain ⟨_, _, h3, _⟩ := hyi i y hy
      have := World.cells?_block h3 h0
      rwa [addr_block] at this
    refine ⟨ys.map (·.1), ?_, ?_, ?_⟩
    · refine VL.one ?_
      have hl' : len = ((ys.map (·.1)).map f).length := by simp [hlen]
      rw [hl']
      have hget : ∀ (i : Nat) d, ((ys.map (·.1)).map f)[i]? = some d → ∃ y, ys[i]? = some y ∧ d = f y.1 := by
        intro i d hd
        simp only [List.getElem?_map, Option.map_eq_some_iff] at hd
        obtain ⟨x, ⟨y, hy, rfl⟩, rfl⟩ := hd
        exact ⟨y, hy, rfl⟩
      have hz' : ∀ (i : Nat) y, ys[i]? = some y → (emb y.1).length = z ∧ y.2.1.length = z := by
        intro i y hy
        obtain ⟨_, _, h3, h4, _⟩ := hyi i y hy
        obtain ⟨_, k2, _⟩ := World.cells?_some h3
        exact ⟨h4.1.trans k2, k2⟩
      refine .sl (some a) cap (fun i j => ((ys[i]?).map fun y => y.2.1.getD j undef).getD undef) (by rw [← hl']; exact hlc) (by simp) ?_ ?_ ?_ ?_ (by show 0 < 2; omega) (by simp) (by omega)
      · intro i d hd
        obtain ⟨y, hy, rfl⟩ := hget i d hd
        rw [hf]; exact (hz' i y hy).1
      · intro hne
        exact ⟨a, rfl, hspot (by rintro rfl; simp at hne)⟩
      · intro i j d x hd hx ad had
        obtain rfl := Option.some.inj had
        obtain ⟨y, hy, rfl⟩ := hget i d hd
        rw [hf] at hx
        have hj : j < z := by rw [← (hz' i y hy).1]; exact (List.getElem?_eq_some_iff.1 hx).1
        obtain ⟨v, hv, hc⟩ := hcell i y j hy hj
        have hsp := hspot (by rintro rfl; simp at hy)
        refine ⟨?_, hblk i y hy⟩
        rw [hy]
        simp only [Option.map_some, Option.getD_some, List.getD_eq_getElem?_getD, hv]
        rw [← hc]
        obtain ⟨ab, ao, asp⟩ := a
        simp only at hsp
        subst hsp
        rw [addr_add, addr_add]
      · intro i j d x hd hx
        obtain ⟨y, hy, rfl⟩ := hget i d hd
        rw [hf] at hx
        obtain ⟨_, _, _, h4, _⟩ := hyi i y hy
        rw [hy]
        simpa using h4.2 j x hx
    · simp only [D.bulkL, D.bulk, bulkW, Nat.add_zero]
      rw [bulkL_map, List.map_map]
      have := bulkWs_get (l := elems.map (·.1)) (fun y : T × List Value × (DataW H × List MemPlace) => (f y.1).bulk) ys (by simp [hlen, hel]) (by
        intro i y d hy hd
        obtain ⟨_, h2, _, _, h5, _⟩ := hyi i y hy
        simp only [List.getElem?_map, h2, Option.map_some, Option.some.injEq] at hd
        subst hd
        rw [hfb]; exact h5)
      have e : ((ys.map ((fun x => (f x).bulk) ∘ fun x => x.1))).sum = (ys.map fun y => (f y.1).bulk).sum := rfl
      rw [e]
      omega
    · simp only [D.wfL, D.wfB, Bool.and_true]
      rw [wfL_map, List.all_map, List.all_eq_true]
      intro y hy
      obtain ⟨i, hi⟩ := List.mem_iff_getElem?.1 hy
      obtain ⟨_, _, _, _, _, h6⟩ := hyi i y hi
      simp only [Function.comp_apply]
      rw [hfw]; exact h6

end
end Go.Den

namespace Go.Den
open Go.RowKit
section
variable {P : Program} {E : Env} {c : CS} {g : Gh} {w : World}

def cloneFI : FI := ⟨1, 8, [.tmp 2], .skip, fun _ => .pure, fun _ => none⟩
/-- The answer of a clone. -/
def cloneD (E : Env) (t : TypeId) : List D → CS → Option (D × CS)
  | [.sl _ z l], c => match E.ty t with
    | some ⟨.slice e, _, _, _, _, _⟩ => match E.ty e with
      | some i => if (z = i.size ∧ 0 < z) ∧ l.length * (i.bytes + 1) ≤ maxRoom ∧ okL l = true then some (.sl c.nx z l, { c with tk := upd c.tk c.nx (some l.length), nx := c.nx + 1 }) else none
      | none => none
    | _ => none
  | _, _ => none

theorem eq_nilnil {t e : TypeId} {w : World} (hu : P.underlying t = some (.slice e)) : (Op.equal t (.slice none 0 0) (.slice none 0 0)).run P w = .ok true w := by
  show (Op.equalIn (9999 + 1) t _ _).run P w = _
  rw [Op.equalIn]; simp [go_sem, run_underlying hu]

theorem clone_ans (hE : EnvOk P E) (ho : E.orc = fun _ => none) {f : FuncId} {fn : Func} {t b : TypeId} (hfn : P.funcs[f]? = some fn) (hbody : fn.body = some (cloneBody t b)) (hnt : fn.ntmps = 8) (hres : fn.results = #[.tmp 2]) (hname : (fn.name == "runtime.NumGoroutine") = false)
    {args : List D} {r : D} {c' : CS} (h : cloneD E t args c = some (r, c')) : HasBody P f ∧ AnsOk P E f args c r c' := by
  unfold cloneD at h
  split at h
  case h_2 => simp at h
  rename_i _ k z l
  split at h
  case h_2 => simp at h
  rename_i e s0 b0 a0 f0 z0 hty
  split at h
  case h_2 => simp at h
  rename_i i hi
  split at h
  case isFalse => simp at h
  rename_i hcond
  obtain ⟨⟨hz, h0⟩, hroom, hok⟩ := hcond
  obtain ⟨rfl, rfl⟩ := Prod.mk.inj (Option.some.inj h)
  subst hz
  refine ⟨⟨fn, hfn, by rw [hbody]; rfl, hname⟩, ?_⟩
  intro g w vs hI hl hv
  obtain ⟨v, rfl⟩ : ∃ v, vs = [v] := by
    cases vs with
    | nil => simp at hl
    | cons v vs => cases vs with
      | nil => exact ⟨v, rfl⟩
      | cons _ _ => simp at hl
  have hv0 := hv 0 _ rfl
  simp only [List.getD_cons_zero] at hv0
  have hc : CallOk P E (FW E) := FW_ok hE
  have hd : DrawOk P E (drawRun E cloneFI (FW E)) := draw_ok hE _ _ hc
  have hit : ∀ (b : St → Option (Ex × St)) s r, iterW b s = some r → ∃ n, iter b n s = some r := fun b s r h => iterW_iff.1 h
  have hR : Rel E g ⟨[.sl k i.size l, .dead, .dead, .dead, .dead, .dead, .dead, .dead], c⟩ { tmps := #[v] ++ Array.replicate (fn.ntmps - (#[v] : Array Value).size) undef, defers := [] } w := by
    refine ⟨by simp [hnt], fun j d hj => ?_, rfl, hI⟩
    match j with
    | 0 => simp at hj; subst hj; rw [hnt]; exact hv0
    | 1 | 2 | 3 | 4 | 5 | 6 | 7 => simp at hj; subst hj; exact .dead
    | j + 8 => simp at hj
  have hres' : fn.results.toList = cloneFI.res := by rw [hres]; rfl
  -- behind the end
  have fin : ∀ {s : St} {a' : Act} {w' : World} {g' : Gh}, Rel E g' s a' w' → Evo g c w g' s.cs w' → s.sl.getD 2 .dead = .sl c.nx i.size l → s.cs = { c with tk := upd c.tk c.nx (some l.length), nx := c.nx + 1 } →
      ∃ v, (results fn a'.tmps).run P w' = .ok v w' ∧ ∃ x g', Ending.returned v = .returned x ∧ V E { c with tk := upd c.tk c.nx (some l.length), nx := c.nx + 1 } g' w' (.sl c.nx i.size l) x ∧ Inv E { c with tk := upd c.tk c.nx (some l.length), nx := c.nx + 1 } g' w' ∧ Evo g c w g' { c with tk := upd c.tk c.nx (some l.length), nx := c.nx + 1 } w' := by
    intro s a' w' g' hR' he h2 hcs
    have hr : resultsD E cloneFI s = some (.sl c.nx i.size l) := by
      show resultsD E ⟨1, 8, [.tmp 2], _, _, _⟩ s = _
      simp only [resultsD, resL, resD, h2]
    obtain ⟨v, hv1, hv2⟩ := results_ok hE hR' hres' hr
    rw [hcs] at hv2 he
    have hI' := hR'.inv
    rw [hcs] at hI'
    exact ⟨v, hv1, v, g', rfl, hv2, hI', he⟩
  refine calls_of_wp hfn hbody ?_
  cases l with
  | cons d l =>
    have hden : ∃ s', den E cloneFI (FW E) (drawRun E cloneFI (FW E)) iterW (cloneBody t b) ⟨[.sl k i.size (d :: l), .dead, .dead, .dead, .dead, .dead, .dead, .dead], c⟩ = some (.ret, s') ∧ s'.sl.getD 2 .dead = .sl c.nx i.size (d :: l) ∧
        s'.cs = { c with tk := upd c.tk c.nx (some (d :: l).length), nx := c.nx + 1 } := by
      have hroom' : (l.length + 1) * (i.bytes + 1) ≤ maxRoom := hroom
      have hp : ∀ s id, St.keep s cloneFI id = s := fun s id => rfl
      simp [cloneBody, den, hp, runOps, wantD, hty, hi, h0, chunk, fillD, List.range, List.range.loop, appendD, hroom', hok]
    obtain ⟨s', h1, h2, h3⟩ := hden
    refine wp_mono (den_ok hE hc hd hit (cloneBody t b) h1 hR) ?_
    rintro e a' w' ⟨rfl, g', hR', he⟩
    obtain ⟨v, hv1, hv2⟩ := fin hR' he h2 h3
    exact ⟨hR'.defers, v, hv1, hv2⟩
  | nil =>
    have hp : ∀ s id, St.keep s cloneFI id = s := fun s id => rfl
    have hu : P.underlying t = some (.slice e) := ty_slice hE hty rfl
    -- ahead of the comparison
    refine wp_seq ?_
    refine wp_mono (den_ok (fi := cloneFI) hE hc hd hit _ (ex := .normal) (s' := ⟨[.sl k i.size [], .dead, .sl 1 (elemZ E t) [], .dead, .dead, .dead, .dead, .dead], c⟩) (by simp [den, hp, runOps, wantD]) hR) ?_
    rintro e1 a1 w1 ⟨rfl, g1, hR1, he1⟩
    simp only [Ex.out, Exit.then]
    refine wp_seq (wp_seq ?_)
    refine wp_region ?_
    have hrange : (List.range 2) = [0, 1] := rfl
    show wpOps P _ _ (List.range 2) a1 w1
    rw [hrange]
    simp only [wpOps, List.getElem?_toArray, List.getElem?_cons_zero, List.getElem?_cons_succ, Region.wanted, if_true]
    left
    refine runOp_ok hE hc hR1 (fi := cloneFI) (r := .sl k i.size []) (c' := c) (by simp) (fun v1 w2 g2 hv2 hI2 he2 => ?_)
    have hR2 := hR1.put hv2 hI2 he2 (some 3)
    have hslot := hR2.slot 3 (.sl k i.size []) (by simp)
    generalize hx3 : (a1.put (some 3) v1).tmps.getD 3 undef = x3 at hslot
    have last : ∀ bb : Bool, Rel E g2 ⟨[.sl k i.size [], .dead, .sl 1 (elemZ E t) [], .sl k i.size [], .v (.bool bb), .dead, .dead, .dead], c⟩ ((a1.put (some 3) v1).put (some 4) (.bool bb)) w2 := by
      intro bb
      have := hR2.put (d := .v (.bool bb)) (v := .bool bb) (.v rfl) hI2 (.refl hI2.mb _ _) (some 4)
      simpa using this
    have hev : Evo g c w g2 c w2 := he1.trans he2
    left
    cases hslot with
    | sl p cap f hcap hnone hz hsome hcell hv' hk h1 htok =>
    cases p with
    | none =>
      have hcap0 := hnone rfl
      subst hcap0
      refine wp_value (w' := w2) (v := .bool true) ?_ ?_
      · unfold execOp
        simp only [Act.eval]
        rw [hx3]
        refine run_v ?_
        show (do pure (.bool (← Op.equal t _ (.slice none 0 0))) : Sem Value).run P w2 = _
        simp only [List.length_nil, Sem.run_bind, eq_nilnil hu, Result.andThen_ok, Sem.run_pure]
      · show (Code.cond (.tmp 4) _ _).wp P _ _ _
        refine wp_mono (den_ok (fi := cloneFI) hE hc hd hit _ (ex := .ret) (s' := ⟨[.sl k i.size [], .dead, .sl 1 (elemZ E t) [], .sl k i.size [], .v (.bool true), .dead, .dead, .dead], c⟩) (by simp [den, hp, runOps, wantD]) (last true)) ?_
        rintro e3 a3 w3 ⟨rfl, g3, hR3, he3⟩
        have hz : elemZ E t = i.size := by simp [elemZ, hty, hi]
        rw [hz] at hR3
        have hr : resultsD E cloneFI ⟨[.sl k i.size [], .dead, .sl 1 i.size [], .sl k i.size [], .v (.bool true), .dead, .dead, .dead], c⟩ = some (.sl 1 i.size []) := rfl
        obtain ⟨v, hv1, hv2⟩ := results_ok hE hR3 hres' hr
        obtain ⟨k1, k2⟩ := mint_ok hR3.inv 0
        refine ⟨hR3.defers, v, hv1, v, _, rfl, ?_, k2, (hev.trans he3).trans k1⟩
        cases hv2 with
        | sl p2 cap2 f2 hcap2 hnone2 hz2 hsome2 hcell2 hv2' hk2 h12 htok2 =>
        have hc0 : cap2 = 0 := h12 rfl
        subst hc0
        exact .sl (l := []) p2 0 f2 (Nat.le_refl _) (fun _ => rfl) (by simp) (by simp) (by simp) (by simp) (Nat.lt_succ_self _) (fun _ => rfl) (fun n _ hn => by
          simp only [upd, if_true, Option.some.injEq] at hn
          exact ⟨Nat.zero_le _, fun _ => .inl rfl⟩)
    | some ad =>
      refine wp_value (w' := w2) (v := .bool false) ?_ ?_
      · unfold execOp
        simp only [Act.eval]
        rw [hx3]
        refine run_v ?_
        show (do pure (.bool (← Op.equal t _ (.slice none 0 0))) : Sem Value).run P w2 = _
        simp only [Sem.run_bind, eq_slnil hu, Result.andThen_ok, Sem.run_pure]
      · show (Code.cond (.tmp 4) _ _).wp P _ _ _
        refine wp_mono (den_ok (fi := cloneFI) hE hc hd hit _ (ex := .normal) (s' := ⟨[.sl k i.size [], .dead, .sl 1 (elemZ E t) [], .sl k i.size [], .v (.bool false), .dead, .dead, .dead], c⟩) (by simp [den]) (last false)) ?_
        rintro e3 a3 w3 ⟨rfl, g3, hR3, he3⟩
        simp only [Ex.out, Exit.then]
        refine wp_mono (den_ok (fi := cloneFI) hE hc hd hit _ (ex := .ret) (s' := ⟨[.sl k i.size [], .dead, .sl c.nx i.size [], .sl k i.size [], .v (.bool false), .sl 1 i.size [], .sl k i.size [], .sl c.nx i.size []], { c with tk := upd c.tk c.nx (some 0), nx := c.nx + 1 }⟩)
          (by simp [den, hp, runOps, wantD, hty, hi, h0, chunk, List.range, List.range.loop, appendD, okL, maxRoom]) hR3) ?_
        rintro e4 a4 w4 ⟨rfl, g4, hR4, he4⟩
        obtain ⟨v, hv1, hv2⟩ := fin hR4 ((hev.trans he3).trans he4) rfl rfl
        exact ⟨hR4.defers, v, hv1, hv2⟩

theorem FW_orc {f : FuncId} {o : List D → CS → Option (D × CS)} {a : List D} {c : CS} (h : E.orc f = some o) : FW E f a c = o a c := by
  refine Option.ext fun r => ⟨fun hr => ?_, fun hr => FW_iff.2 ⟨1, by simp only [F, h]; exact hr⟩⟩
  obtain ⟨n, hn⟩ := FW_iff.1 hr
  cases n with
  | zero => simp [F] at hn
  | succ n => simp only [F, h] at hn; exact hn

/-- strings.Contains: what its call answers (g: the number of the variable that bounds what is searched for). -/
def containsD (gl : Option (List D)) : List D → CS → Option (D × CS)
  | [.v (.string s), .v (.string t)], c => match gl with
    | some [.v (.int .i64 _)] => if s.size < 4294967281 then some (.v (.bool (Lib.contains s.data.toList t.data.toList)), c) else none
    | _ => none
  | _, _ => none
theorem contains_ans {f : FuncId} {n : Nat} (hb : HasBody P f)
    (h0 : ∀ (s t : ByteArray) (m : Int) (w : World), s.size < 4294967281 → w.cell? ⟨n, 0, none⟩ = some (.int .i64 m) → Calls P f #[.string s, .string t] w fun e w' => e = .returned (.bool (Lib.contains s.data.toList t.data.toList)) ∧ w' = w)
    {args : List D} {r : D} {c' : CS} (h : containsD (E.gl n) args c = some (r, c')) : HasBody P f ∧ AnsOk P E f args c r c' := by
  unfold containsD at h
  split at h
  case h_2 => simp at h
  rename_i s t
  split at h
  case h_2 => simp at h
  rename_i m hg
  split at h
  case isFalse => simp at h
  rename_i hs
  obtain ⟨rfl, rfl⟩ := Prod.mk.inj (Option.some.inj h)
  refine ⟨hb, fun g w vs hI hl hv => ?_⟩
  obtain ⟨_, hcell⟩ := hI.gl n _ hg
  obtain ⟨x, hx, hxv, _⟩ := hcell 0 _ rfl
  obtain ⟨rfl, _⟩ := hxv.v_inv
  obtain ⟨v0, v1, rfl⟩ : ∃ v0 v1, vs = [v0, v1] := by
    match vs, hl with
    | [a, b], _ => exact ⟨a, b, rfl⟩
  have h1 := hv 0 _ rfl
  have h2 := hv 1 _ rfl
  simp only [List.getD_cons_zero, List.getD_cons_succ] at h1 h2
  obtain ⟨rfl, _⟩ := h1.v_inv
  obtain ⟨rfl, _⟩ := h2.v_inv
  refine (h0 s t m w hs hx).mono ?_
  rintro e w' ⟨rfl, rfl⟩
  exact ⟨_, g, rfl, .v rfl, hI, .refl hI.mb _ _⟩

end
end Go.Den

namespace Go.Den

/-- The slice of n elements with mark k may be appended to. -/
def App (c : CS) (k n : Nat) : Prop := 2 ≤ c.nx ∧ (k = 1 ∨ (2 ≤ k ∧ k < c.nx ∧ c.tk k = some n))
def appK (c : CS) (k : Nat) : Nat := if k = 1 then c.nx else k
def appC (c : CS) (k n : Nat) : CS := if k = 1 then { c with tk := upd c.tk c.nx (some n), nx := c.nx + 1 } else { c with tk := upd c.tk k (some n) }

theorem appendD_eq {E : Env} {e : TypeId} {i : TI} {k z n m : Nat} {l xs : List D} {c : CS} (hi : E.ty e = some i) (h : App c k n) (hl : l.length = n) (hm : xs.length = m) (hz : z = i.size ∧ 0 < z) (hr : (n + m) * (i.bytes + 1) ≤ maxRoom) (ho : okL xs = true) :
    appendD E e (.sl k z l) xs c = some (.sl (appK c k) z (l ++ xs), appC c k (n + m)) := by
  subst hl hm
  unfold appendD
  rw [hi]
  simp only
  rw [if_pos ⟨hz, hr, ho⟩]
  obtain ⟨_, rfl | ⟨h2, _, h4⟩⟩ := h
  · simp [appK, appC]
  · have : k ≠ 1 := by omega
    simp [appK, appC, this, h2, h4]

theorem App.fresh {n : Nat} : App .fresh 1 n := ⟨Nat.le_refl _, .inl rfl⟩
theorem App.nil {c : CS} {k n m : Nat} (h : App c k n) : App c 1 m := ⟨h.1, .inl rfl⟩
theorem App.one {c : CS} {n : Nat} (h : 2 ≤ c.nx) : App c 1 n := ⟨h, .inl rfl⟩
theorem App.self {c : CS} {k n m : Nat} (h : App c k n) : App (appC c k m) (appK c k) m := by
  obtain ⟨h1, rfl | ⟨h2, h3, h4⟩⟩ := h
  · refine ⟨?_, .inr ?_⟩ <;> simp [appK, appC, upd] <;> omega
  · have : k ≠ 1 := by omega
    refine ⟨?_, .inr ?_⟩ <;> simp [appK, appC, upd, this] <;> omega
/-- Two marks that have nothing to do with one another. -/
def Sep (k j : Nat) : Prop := k = 1 ∨ j = 1 ∨ k ≠ j
theorem Sep.symm {k j : Nat} (h : Sep k j) : Sep j k := by unfold Sep at *; omega
theorem App.other {c : CS} {k j n m q : Nat} (h : App c k n) (hj : App c j q) (hs : Sep k j) : App (appC c k m) j q ∧ Sep (appK c k) j := by
  obtain ⟨h1, h2⟩ := h
  obtain ⟨_, k2⟩ := hj
  unfold Sep at *
  refine ⟨⟨?_, ?_⟩, ?_⟩
  · unfold appC; split <;> simp <;> omega
  · rcases k2 with rfl | ⟨k2, k3, k4⟩
    · exact .inl rfl
    · right
      unfold appC
      split
      · have : j ≠ c.nx := by omega
        simp only [upd, if_neg this]
        exact ⟨k2, by omega, k4⟩
      · have : j ≠ k := by omega
        simp only [upd, if_neg this]
        exact ⟨k2, k3, k4⟩
  · unfold appK; rcases k2 with rfl | ⟨k2, k3, k4⟩ <;> split <;> omega
theorem App.hp {c : CS} {k n : Nat} : (appC c k n).hp = c.hp := by unfold appC; split <;> rfl

/-- What goes out of a call by itself. -/
theorem out_sl {E : Env} {c : CS} {k z : Nat} {l : List D} : ∃ m, c.out E (.sl k z l) = some (.sl m z (D.normL l)) := ⟨_, rfl⟩

/-- A call by itself answers r. -/
def Pu (E : Env) (f : FuncId) (args : List D) (r : D) : Prop := ∃ r', pcall E (FW E) f args = some r' ∧ unmark r' = r

theorem Pu.call {E : Env} {f : FuncId} {args : List D} {r : D} (h : Pu E f args r) {t : TypeId} {c : CS} : callD E (FW E) .pure t f args c = some (r, c) := by
  obtain ⟨r', h1, h2⟩ := h
  simp [callD, h1, h2]

theorem Pu.of {E : Env} {f : FuncId} {args nargs : List D} {r r' : D} {c : CS} (hn : args.map D.norm = nargs) (h : FW E f nargs .fresh = some (r, c)) (hr : ∃ r'', c.out E r = some r'' ∧ unmark r'' = r') : Pu E f args r' := by
  obtain ⟨r'', h1, h2⟩ := hr
  exact ⟨r'', pcall_of hn h h1, h2⟩

theorem out_v {E : Env} {c : CS} {x : Value} : ∃ r, c.out E (.v x) = some r ∧ unmark r = .v x := ⟨.v x, rfl, rfl⟩
theorem out_slU {E : Env} {c : CS} {k z : Nat} {l l' : List D} (h : D.normL l = l') : ∃ r, c.out E (.sl k z l) = some r ∧ unmark r = .sl 0 z l' := by
  subst h; exact ⟨_, rfl, rfl⟩

/-- A list's elements as values. -/
def em {T : Type} (f : T → D) (l : List T) : List D := l.map f
section
variable {T : Type} {f : T → D}
@[simp] theorem em_nil : em f [] = [] := rfl
@[simp] theorem em_length (l : List T) : (em f l).length = l.length := by simp [em]
@[simp] theorem em_get (l : List T) (i : Nat) : (em f l)[i]? = (l[i]?).map f := by simp [em]
@[simp] theorem em_getElem (l : List T) (i : Nat) (h : i < (em f l).length) : (em f l)[i] = f (l[i]'(by simpa using h)) := by simp [em]
@[simp] theorem em_app (a b : List T) : em f a ++ em f b = em f (a ++ b) := by simp [em]
@[simp] theorem em_snoc (a : List T) (x : T) : em f a ++ [f x] = em f (a ++ [x]) := by simp [em]
@[simp] theorem em_take (l : List T) (n : Nat) : (em f l).take n = em f (l.take n) := by simp [em]
@[simp] theorem em_drop (l : List T) (n : Nat) : (em f l).drop n = em f (l.drop n) := by simp [em]
theorem em_cons (x : T) (l : List T) : em f (x :: l) = f x :: em f l := rfl
theorem em_one (x : T) : em f [x] = [f x] := rfl
theorem em_norm (h : ∀ x, (f x).norm = f x) (l : List T) : D.normL (em f l) = em f l := by
  induction l with
  | nil => rfl
  | cons x l ih => simp [em_cons, D.normL, ih, h]
theorem em_okL (h : ∀ x, (f x).cells.all D.cellB = true) (l : List T) : okL (em f l) = true := by
  simp only [okL, em, List.all_map, List.all_eq_true, Function.comp_apply]
  exact fun x _ => List.all_eq_true.1 (h x)
theorem em_bulk (l : List T) : D.bulkL (em f l) = (l.map fun x => (f x).bulk).sum := bulkL_map f l
theorem em_wf (l : List T) : D.wfL (em f l) = l.all fun x => (f x).wfB := wfL_map f l
end

end Go.Den

namespace Go.Den

attribute [simp] chunk

section
variable {c : CS} {o : Obj} {s s' k n : Nat}
@[simp] theorem new_nx : (c.new o).nx = c.nx + 1 := rfl
@[simp] theorem put_nx : (c.put s o).nx = c.nx := rfl
@[simp] theorem new_tk : (c.new o).tk = c.tk := rfl
@[simp] theorem put_tk : (c.put s o).tk = c.tk := rfl
@[simp] theorem app_hp : (appC c k n).hp = c.hp := App.hp
@[simp] theorem put_hp : (c.put s o).hp s = some o := by simp [CS.put, upd]
@[simp] theorem put_hp_ne (h : s' ≠ s) : (c.put s o).hp s' = c.hp s' := by simp [CS.put, upd, h]
@[simp] theorem new_hp : (c.new o).hp c.nx = some o := by simp [CS.new, upd]
@[simp] theorem new_hp_ne (h : s ≠ c.nx) : (c.new o).hp s = c.hp s := by simp [CS.new, upd, h]
@[simp] theorem new_hp_at (h : s = c.nx) : (c.new o).hp s = some o := by subst h; exact new_hp
@[simp] theorem put_hp_at (h : s' = s) : (c.put s o).hp s' = some o := by subst h; exact put_hp
theorem app_nx_le : c.nx ≤ (appC c k n).nx := by unfold appC; split <;> simp
@[simp] theorem App_new {m : Nat} : App (c.put s o) k m ↔ App c k m := Iff.rfl
@[simp] theorem App.new {m : Nat} (h : App c k m) : App (c.new o) k m := by
  obtain ⟨h1, h2⟩ := h
  refine ⟨by simp; omega, ?_⟩
  rcases h2 with rfl | ⟨h2, h3, h4⟩
  · exact .inl rfl
  · exact .inr ⟨h2, by simp; omega, h4⟩
@[simp] theorem fresh_nx : CS.fresh.nx = 2 := rfl
theorem app_of {E : Env} {e : TypeId} {i : TI} (hi : E.ty e = some i) (h0 : 0 < i.size) {k : Nat} {l xs : List D} {c : CS} (h : App c k l.length) (hr : (l.length + xs.length) * (i.bytes + 1) ≤ maxRoom) (ho : okL xs = true) :
    appendD E e (.sl k i.size l) xs c = some (.sl (appK c k) i.size (l ++ xs), appC c k (l.length + xs.length)) := appendD_eq hi h rfl rfl ⟨rfl, h0⟩ hr ho
@[simp] theorem appK_one : appK c 1 = c.nx := rfl
@[simp] theorem appC_one_nx : (appC c 1 n).nx = c.nx + 1 := rfl
@[simp] theorem appK_ne (h : k ≠ 1) : appK c k = k := by simp [appK, h]
@[simp] theorem appC_ne_nx (h : k ≠ 1) : (appC c k n).nx = c.nx := by simp [appC, h]
@[simp] theorem okL_nil : okL [] = true := rfl
@[simp] theorem okL_cons {d : D} {l : List D} : okL (d :: l) = (d.cells.all D.cellB && okL l) := rfl
@[simp] theorem App.one_fresh {n : Nat} : App .fresh 1 n := .fresh
end
end Go.Den

namespace Go.Den

/-- The slot t. -/
def lk : List (Nat × D) → Nat → D
  | [], _ => .dead
  | (i, d) :: r, t => if i = t then d else lk r t
@[simp] theorem lk_nil {t : Nat} : lk [] t = .dead := rfl
@[simp] theorem lk_cons {i t : Nat} {d : D} {r : List (Nat × D)} : lk ((i, d) :: r) t = if i = t then d else lk r t := rfl

/-- So many slots, by those that are not dead. -/
def dense (n : Nat) (m : List (Nat × D)) : List D := (List.range n).map (lk m)
@[simp] theorem dense_length (n : Nat) (m : List (Nat × D)) : (dense n m).length = n := by simp [dense]
theorem dense_get? (n : Nat) (m : List (Nat × D)) (t : Nat) : (dense n m)[t]? = if t < n then some (lk m t) else none := by
  simp only [dense, List.getElem?_map]
  split
  · rename_i h; rw [List.getElem?_range h]; rfl
  · rename_i h; rw [List.getElem?_eq_none (by simp; omega)]; rfl
@[simp] theorem dense_get (n : Nat) (m : List (Nat × D)) (t : Nat) (h : t < n) : (dense n m)[t]? = some (lk m t) := by rw [dense_get?, if_pos h]
@[simp] theorem dense_getElem (n : Nat) (m : List (Nat × D)) (t : Nat) (h : t < (dense n m).length) : (dense n m)[t] = lk m t := by
  have h' : t < n := by simpa using h
  have := dense_get n m t h'
  rw [List.getElem?_eq_getElem h] at this
  exact Option.some.inj this
@[simp] theorem dense_getD (n : Nat) (m : List (Nat × D)) (t : Nat) (h : t < n) : (dense n m).getD t .dead = lk m t := by
  rw [List.getD_eq_getElem?_getD, dense_get n m t h]; rfl
@[simp] theorem dense_set (n : Nat) (m : List (Nat × D)) (t : Nat) (d : D) : (dense n m).set t d = dense n ((t, d) :: m) := by
  apply List.ext_getElem?
  intro i
  rw [List.getElem?_set]
  by_cases hi : t = i
  · subst hi
    simp only [if_true]
    by_cases ht : t < n
    · rw [if_pos (by simpa using ht), dense_get _ _ _ ht, lk_cons, if_pos rfl]
    · rw [if_neg (by simpa using ht), dense_get?, if_neg ht]
  · rw [if_neg hi, dense_get?, dense_get?, lk_cons, if_neg hi]

/-- The living ones. -/
def pickL (m : List (Nat × D)) : List Nat → List (Nat × D)
  | [] => []
  | t :: ts => (t, lk m t) :: pickL m ts
@[simp] theorem pickL_nil {m : List (Nat × D)} : pickL m [] = [] := rfl
@[simp] theorem pickL_cons {m : List (Nat × D)} {t : Nat} {ts : List Nat} : pickL m (t :: ts) = (t, lk m t) :: pickL m ts := rfl
theorem lk_pick (m : List (Nat × D)) (live : List Nat) (t : Nat) : lk (pickL m live) t = if live.contains t then lk m t else .dead := by
  induction live with
  | nil => rfl
  | cons i live ih =>
    rw [pickL_cons, lk_cons, ih]
    by_cases h : i = t
    · subst h; simp
    · have : ¬ t = i := fun e => h e.symm
      simp [h, this]
theorem keepL_get? (live : List Nat) : ∀ (ds : List D) (i j : Nat), (keepL live i ds)[j]? = (ds[j]?).map fun d => if live.contains (i + j) then d else .dead
  | [], i, j => by simp [keepL]
  | d :: ds, i, j => by
    cases j with
    | zero => simp [keepL]
    | succ j =>
      simp only [keepL, List.getElem?_cons_succ]
      rw [keepL_get? live ds (i + 1) j]
      have : i + 1 + j = i + (j + 1) := by omega
      rw [this]
theorem keep_dense (live : List Nat) (n : Nat) (m : List (Nat × D)) : keepL live 0 (dense n m) = dense n (pickL m live) := by
  apply List.ext_getElem?
  intro j
  rw [keepL_get?, dense_get?, dense_get?, lk_pick]
  by_cases h : j < n
  · simp [h]
  · simp [h]

/-- The slots where a call begins. -/
def args (i : Nat) : List D → List (Nat × D)
  | [] => []
  | d :: ds => (i, d) :: args (i + 1) ds
@[simp] theorem args_nil {i : Nat} : args i [] = [] := rfl
@[simp] theorem args_cons {i : Nat} {d : D} {ds : List D} : args i (d :: ds) = (i, d) :: args (i + 1) ds := rfl
theorem lk_args : ∀ (a : List D) (i j : Nat), lk (args i a) j = if i ≤ j then (a[j - i]?).getD .dead else .dead
  | [], i, j => by simp
  | d :: ds, i, j => by
    rw [args_cons, lk_cons, lk_args ds (i + 1) j]
    by_cases h : i = j
    · subst h; simp
    · rw [if_neg h]
      by_cases h2 : i ≤ j
      · have h3 : i + 1 ≤ j := by omega
        rw [if_pos h2, if_pos h3]
        have : j - i = (j - (i + 1)) + 1 := by omega
        rw [this]; rfl
      · have h3 : ¬ i + 1 ≤ j := by omega
        rw [if_neg h2, if_neg h3]
theorem start_dense (a : List D) (n : Nat) (h : a.length ≤ n) : a ++ List.replicate (n - a.length) .dead = dense n (args 0 a) := by
  apply List.ext_getElem?
  intro j
  rw [dense_get?, lk_args]
  simp only [Nat.zero_le, if_true, Nat.sub_zero]
  by_cases hj : j < a.length
  · rw [List.getElem?_append_left hj, if_pos (by omega), List.getElem?_eq_getElem hj]; rfl
  · rw [List.getElem?_append_right (by omega), List.getElem?_replicate, List.getElem?_eq_none (l := a) (by omega)]
    by_cases hn : j < n
    · rw [if_pos (by omega), if_pos hn]; rfl
    · rw [if_neg (by omega), if_neg hn]

theorem FW_Wd {E : Env} {fi : FI} {f : FuncId} {a : List D} {c : CS} {r : D × CS} (ks : List Nat) (ho : E.orc f = none) (hf : E.fn f = some fi) (hl : a.length = fi.np) (hn : fi.np ≤ fi.nt) (hp : plainB fi ks fi.body = true)
    (h : W E fi (undraw ks fi.body) ⟨dense fi.nt (args 0 a), c⟩ (resQ E fi r)) : FW E f a c = some r := by
  refine FW_W ks ho hf hl hp ?_
  rw [← hl, start_dense a fi.nt (by omega)]; exact h
theorem FW_Pd {E : Env} {fi : FI} {f : FuncId} {a : List D} {c : CS} {P : D → CS → Prop} (ks : List Nat) (ho : E.orc f = none) (hf : E.fn f = some fi) (hl : a.length = fi.np) (hn : fi.np ≤ fi.nt) (hp : plainB fi ks fi.body = true)
    (h : W E fi (undraw ks fi.body) ⟨dense fi.nt (args 0 a), c⟩ (resP E fi P)) : ∃ d c', FW E f a c = some (d, c') ∧ P d c' := by
  refine FW_P ks ho hf hl hp ?_
  rw [← hl, start_dense a fi.nt (by omega)]; exact h

/-- Some slots. -/
def isD (n : Nat) (l : List D) : Prop := ∃ q, l = dense n q
@[simp] theorem isD_dense (n : Nat) (q : List (Nat × D)) : isD n (dense n q) := ⟨q, rfl⟩

/-- A drawn region, by its trace. -/
noncomputable def drawT (E : Env) (fi : FI) (call : CallF) (ops : Array Oper) (ps : List (Nat × Nat)) (s : St) : Option St := match trace E fi call ops ops.toList s with
  | some (l, s') => open Classical in if ∀ p ∈ ps, Stable E fi call ops (stAt l s') (anAt l) p then some s' else none
  | none => none
theorem draw_eq {E : Env} {fi : FI} {call : CallF} {id : Nat} {ops : Array Oper} {p : Nat × Nat} {ps : List (Nat × Nat)} (h : drawPairs fi ops = some (p :: ps)) (s : St) : drawRun E fi call id ops s = drawT E fi call ops (p :: ps) s := by
  unfold drawRun drawT
  rw [h] <;> rfl
@[simp] theorem trace_nil {E : Env} {fi : FI} {call : CallF} {ops : Array Oper} {s : St} : trace E fi call ops [] s = some ([], s) := rfl
@[simp] theorem trace_cons {E : Env} {fi : FI} {call : CallF} {ops : Array Oper} {o : Oper} {os : List Oper} {s : St} : trace E fi call ops (o :: os) s = match wantD ops o s with
    | none => none
    | some false => match trace E fi call ops os (s.put o.dst (.tup [])) with
      | some (l, s') => some ((s, none) :: l, s')
      | none => none
    | some true => match runOp E fi call o s with
      | none => none
      | some (d, c) => match trace E fi call ops os ({ s with cs := c }.put o.dst d) with
        | some (l, s') => some ((s, some d) :: l, s')
        | none => none := rfl

attribute [simp] W_draw

end Go.Den
