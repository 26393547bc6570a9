/- Each function's record: written by boil.py. -/
import Derived.Test.YtgilkaonmhlifaaDoorMjDenT
import Derived.Test.YtgilkaonmhlifaaDoorMjDenB
namespace Go.Proofs.YtgilkaonmhlifaaDoor.Dn
open Go.Den
set_option maxRecDepth 100000
variable {G : Nat → Option (List D)}

noncomputable def fi4 : FI := ⟨3, 67, [.tmp 6], Tryd.f4.body.getD .skip, mdT 4, kpT 4⟩
theorem ef4' : (env G).fn 4 = some fi4 := by rw [ef4]; simp only [ofFunc, Tryd.f4, fi4]; rfl
theorem or4 : (env G).orc 4 = none := rfl
@[simp] theorem body4 : fi4.body = Tryd.f4.body.getD .skip := rfl
@[simp] theorem np4 : fi4.np = 3 := rfl
@[simp] theorem nt4 : fi4.nt = 67 := rfl
@[simp] theorem fim4 (t : Nat) : fi4.mode t = mdT 4 t := rfl
@[simp] theorem md4_18 : mdT 4 (18 : Tmp) = .pure := rfl
@[simp] theorem md4_21 : mdT 4 (21 : Tmp) = .pure := rfl
@[simp] theorem md4_44 : mdT 4 (44 : Tmp) = .pure := rfl
@[simp] theorem md4_48 : mdT 4 (48 : Tmp) = .pure := rfl
@[simp] theorem md4_49 : mdT 4 (49 : Tmp) = .pure := rfl
@[simp] theorem md4_50 : mdT 4 (50 : Tmp) = .pure := rfl
@[simp] theorem md4_54 : mdT 4 (54 : Tmp) = .pure := rfl
@[simp] theorem md4_56 : mdT 4 (56 : Tmp) = .pure := rfl
@[simp] theorem md4_60 : mdT 4 (60 : Tmp) = .pure := rfl
@[simp] theorem md4_62 : mdT 4 (62 : Tmp) = .pure := rfl
@[simp] theorem md4_65 : mdT 4 (65 : Tmp) = .pure := rfl
theorem pl4 : plainB fi4 [] fi4.body = true := by kernel_rfl
@[simp] theorem kp4_0 (s : St) : s.keep fi4 0 = s := rfl
@[simp] theorem kp4_1 (s : St) : s.keep fi4 1 = s := rfl
@[simp] theorem kp4_2 (s : St) : s.keep fi4 2 = s := rfl
@[simp] theorem kp4_3 (s : St) : s.keep fi4 3 = s := rfl
@[simp] theorem kp4_4 (s : St) : s.keep fi4 4 = s := rfl
@[simp] theorem kp4_5 (s : St) : s.keep fi4 5 = s := rfl
@[simp] theorem kp4_6 (s : St) : s.keep fi4 6 = s := rfl
@[simp] theorem kp4_7 (s : St) : s.keep fi4 7 = s := rfl
@[simp] theorem res4 (s : St) : resultsD (env G) fi4 s = some (s.sl.getD 6 .dead) := rfl

noncomputable def fi6 : FI := ⟨1, 147, [.tmp 2], Tryd.f6.body.getD .skip, mdT 6, kpT 6⟩
theorem ef6' : (env G).fn 6 = some fi6 := by rw [ef6]; simp only [ofFunc, Tryd.f6, fi6]; rfl
theorem or6 : (env G).orc 6 = none := rfl
@[simp] theorem body6 : fi6.body = Tryd.f6.body.getD .skip := rfl
@[simp] theorem np6 : fi6.np = 1 := rfl
@[simp] theorem nt6 : fi6.nt = 147 := rfl
@[simp] theorem fim6 (t : Nat) : fi6.mode t = mdT 6 t := rfl
@[simp] theorem md6_49 : mdT 6 (49 : Tmp) = .pure := rfl
@[simp] theorem md6_52 : mdT 6 (52 : Tmp) = .pure := rfl
@[simp] theorem md6_54 : mdT 6 (54 : Tmp) = .pure := rfl
@[simp] theorem md6_134 : mdT 6 (134 : Tmp) = .pure := rfl
@[simp] theorem md6_145 : mdT 6 (145 : Tmp) = .pure := rfl
theorem pl6 : plainB fi6 [] fi6.body = true := by kernel_rfl
@[simp] theorem kp6_0 (s : St) : s.keep fi6 0 = s := rfl
@[simp] theorem kp6_1 (s : St) : s.keep fi6 1 = s := rfl
@[simp] theorem kp6_2 (s : St) : s.keep fi6 2 = s := rfl
@[simp] theorem kp6_3 (s : St) : s.keep fi6 3 = { s with sl := keepL [0, 3, 4] 0 s.sl } := rfl
@[simp] theorem kp6_4 (s : St) : s.keep fi6 4 = s := rfl
@[simp] theorem kp6_5 (s : St) : s.keep fi6 5 = s := rfl
@[simp] theorem kp6_6 (s : St) : s.keep fi6 6 = s := rfl
@[simp] theorem kp6_7 (s : St) : s.keep fi6 7 = { s with sl := keepL [0, 3, 4, 5] 0 s.sl } := rfl
@[simp] theorem kp6_8 (s : St) : s.keep fi6 8 = s := rfl
@[simp] theorem kp6_9 (s : St) : s.keep fi6 9 = s := rfl
@[simp] theorem kp6_10 (s : St) : s.keep fi6 10 = s := rfl
@[simp] theorem kp6_11 (s : St) : s.keep fi6 11 = s := rfl
@[simp] theorem kp6_12 (s : St) : s.keep fi6 12 = s := rfl
@[simp] theorem kp6_13 (s : St) : s.keep fi6 13 = s := rfl
@[simp] theorem kp6_14 (s : St) : s.keep fi6 14 = s := rfl
@[simp] theorem kp6_15 (s : St) : s.keep fi6 15 = s := rfl
@[simp] theorem kp6_16 (s : St) : s.keep fi6 16 = s := rfl
@[simp] theorem kp6_17 (s : St) : s.keep fi6 17 = s := rfl
@[simp] theorem kp6_18 (s : St) : s.keep fi6 18 = s := rfl
@[simp] theorem kp6_19 (s : St) : s.keep fi6 19 = { s with sl := keepL [0, 6, 7, 8, 9, 10, 11] 0 s.sl } := rfl
@[simp] theorem kp6_20 (s : St) : s.keep fi6 20 = s := rfl
@[simp] theorem kp6_21 (s : St) : s.keep fi6 21 = s := rfl
@[simp] theorem kp6_22 (s : St) : s.keep fi6 22 = s := rfl
@[simp] theorem kp6_23 (s : St) : s.keep fi6 23 = s := rfl
@[simp] theorem kp6_24 (s : St) : s.keep fi6 24 = s := rfl
@[simp] theorem kp6_25 (s : St) : s.keep fi6 25 = s := rfl
@[simp] theorem kp6_26 (s : St) : s.keep fi6 26 = s := rfl
@[simp] theorem kp6_27 (s : St) : s.keep fi6 27 = s := rfl
@[simp] theorem kp6_28 (s : St) : s.keep fi6 28 = s := rfl
@[simp] theorem kp6_29 (s : St) : s.keep fi6 29 = { s with sl := keepL [6, 7, 10, 12, 13] 0 s.sl } := rfl
@[simp] theorem kp6_30 (s : St) : s.keep fi6 30 = s := rfl
@[simp] theorem kp6_31 (s : St) : s.keep fi6 31 = s := rfl
@[simp] theorem kp6_32 (s : St) : s.keep fi6 32 = s := rfl
@[simp] theorem kp6_33 (s : St) : s.keep fi6 33 = s := rfl
@[simp] theorem kp6_34 (s : St) : s.keep fi6 34 = s := rfl
@[simp] theorem kp6_35 (s : St) : s.keep fi6 35 = s := rfl
@[simp] theorem res6 (s : St) : resultsD (env G) fi6 s = some (s.sl.getD 2 .dead) := rfl

noncomputable def fi16 : FI := ⟨2, 26, [.tmp 4], Tryd.f16.body.getD .skip, mdT 16, kpT 16⟩
theorem ef16' : (env G).fn 16 = some fi16 := by rw [ef16]; simp only [ofFunc, Tryd.f16, fi16]; rfl
theorem or16 : (env G).orc 16 = none := rfl
@[simp] theorem body16 : fi16.body = Tryd.f16.body.getD .skip := rfl
@[simp] theorem np16 : fi16.np = 2 := rfl
@[simp] theorem nt16 : fi16.nt = 26 := rfl
@[simp] theorem fim16 (t : Nat) : fi16.mode t = mdT 16 t := rfl
theorem pl16 : plainB fi16 [] fi16.body = true := by kernel_rfl
@[simp] theorem kp16_0 (s : St) : s.keep fi16 0 = s := rfl
@[simp] theorem kp16_1 (s : St) : s.keep fi16 1 = s := rfl
@[simp] theorem kp16_2 (s : St) : s.keep fi16 2 = s := rfl
@[simp] theorem kp16_3 (s : St) : s.keep fi16 3 = s := rfl
@[simp] theorem kp16_4 (s : St) : s.keep fi16 4 = { s with sl := keepL [0, 1, 5] 0 s.sl } := rfl
@[simp] theorem kp16_5 (s : St) : s.keep fi16 5 = s := rfl
@[simp] theorem kp16_6 (s : St) : s.keep fi16 6 = s := rfl
@[simp] theorem kp16_7 (s : St) : s.keep fi16 7 = s := rfl
@[simp] theorem kp16_8 (s : St) : s.keep fi16 8 = s := rfl
@[simp] theorem res16 (s : St) : resultsD (env G) fi16 s = some (s.sl.getD 4 .dead) := rfl

noncomputable def fi17 : FI := ⟨2, 12, [.tmp 4], Tryd.f17.body.getD .skip, mdT 17, kpT 17⟩
theorem ef17' : (env G).fn 17 = some fi17 := by rw [ef17]; simp only [ofFunc, Tryd.f17, fi17]; rfl
theorem or17 : (env G).orc 17 = none := rfl
@[simp] theorem body17 : fi17.body = Tryd.f17.body.getD .skip := rfl
@[simp] theorem np17 : fi17.np = 2 := rfl
@[simp] theorem nt17 : fi17.nt = 12 := rfl
@[simp] theorem fim17 (t : Nat) : fi17.mode t = mdT 17 t := rfl
theorem pl17 : plainB fi17 [] fi17.body = true := by kernel_rfl
@[simp] theorem kp17_0 (s : St) : s.keep fi17 0 = s := rfl
@[simp] theorem kp17_1 (s : St) : s.keep fi17 1 = s := rfl
@[simp] theorem kp17_2 (s : St) : s.keep fi17 2 = s := rfl
@[simp] theorem kp17_3 (s : St) : s.keep fi17 3 = s := rfl
@[simp] theorem res17 (s : St) : resultsD (env G) fi17 s = some (s.sl.getD 4 .dead) := rfl

noncomputable def fi19 : FI := ⟨2, 24, [.cell 4 23], Tryd.f19.body.getD .skip, mdT 19, kpT 19⟩
theorem ef19' : (env G).fn 19 = some fi19 := by rw [ef19]; simp only [ofFunc, Tryd.f19, fi19]; rfl
theorem or19 : (env G).orc 19 = none := rfl
@[simp] theorem body19 : fi19.body = Tryd.f19.body.getD .skip := rfl
@[simp] theorem np19 : fi19.np = 2 := rfl
@[simp] theorem nt19 : fi19.nt = 24 := rfl
@[simp] theorem fim19 (t : Nat) : fi19.mode t = mdT 19 t := rfl
theorem pl19 : plainB fi19 [] fi19.body = true := by kernel_rfl
@[simp] theorem kp19_0 (s : St) : s.keep fi19 0 = s := rfl
@[simp] theorem kp19_1 (s : St) : s.keep fi19 1 = s := rfl
@[simp] theorem kp19_2 (s : St) : s.keep fi19 2 = s := rfl
@[simp] theorem kp19_3 (s : St) : s.keep fi19 3 = s := rfl
@[simp] theorem kp19_4 (s : St) : s.keep fi19 4 = s := rfl
@[simp] theorem kp19_5 (s : St) : s.keep fi19 5 = s := rfl
@[simp] theorem res19 (s : St) : resultsD (env G) fi19 s = (match resL (env G) s [.cell 4 23] with | some [d] => some d | some ds => some (.tup ds) | none => none) := rfl

noncomputable def fi20 : FI := ⟨2, 23, [.tmp 4], Tryd.f20.body.getD .skip, mdT 20, kpT 20⟩
theorem ef20' : (env G).fn 20 = some fi20 := by rw [ef20]; simp only [ofFunc, Tryd.f20, fi20]; rfl
theorem or20 : (env G).orc 20 = none := rfl
@[simp] theorem body20 : fi20.body = Tryd.f20.body.getD .skip := rfl
@[simp] theorem np20 : fi20.np = 2 := rfl
@[simp] theorem nt20 : fi20.nt = 23 := rfl
@[simp] theorem fim20 (t : Nat) : fi20.mode t = mdT 20 t := rfl
@[simp] theorem md20_10 : mdT 20 (10 : Tmp) = .pure := rfl
@[simp] theorem md20_16 : mdT 20 (16 : Tmp) = .pure := rfl
@[simp] theorem md20_22 : mdT 20 (22 : Tmp) = .pure := rfl
theorem pl20 : plainB fi20 [] fi20.body = true := by kernel_rfl
@[simp] theorem kp20_0 (s : St) : s.keep fi20 0 = s := rfl
@[simp] theorem kp20_1 (s : St) : s.keep fi20 1 = s := rfl
@[simp] theorem kp20_2 (s : St) : s.keep fi20 2 = s := rfl
@[simp] theorem kp20_3 (s : St) : s.keep fi20 3 = s := rfl
@[simp] theorem kp20_4 (s : St) : s.keep fi20 4 = s := rfl
@[simp] theorem kp20_5 (s : St) : s.keep fi20 5 = s := rfl
@[simp] theorem res20 (s : St) : resultsD (env G) fi20 s = some (s.sl.getD 4 .dead) := rfl

noncomputable def fi26 : FI := ⟨0, 26, [.tmp 0], Tryd.f26.body.getD .skip, mdT 26, kpT 26⟩
theorem ef26' : (env G).fn 26 = some fi26 := by rw [ef26]; simp only [ofFunc, Tryd.f26, fi26]; rfl
theorem or26 : (env G).orc 26 = none := rfl
@[simp] theorem body26 : fi26.body = Tryd.f26.body.getD .skip := rfl
@[simp] theorem np26 : fi26.np = 0 := rfl
@[simp] theorem nt26 : fi26.nt = 26 := rfl
@[simp] theorem fim26 (t : Nat) : fi26.mode t = mdT 26 t := rfl
@[simp] theorem md26_6 : mdT 26 (6 : Tmp) = .pure := rfl
@[simp] theorem md26_11 : mdT 26 (11 : Tmp) = .pure := rfl
@[simp] theorem md26_12 : mdT 26 (12 : Tmp) = .pure := rfl
@[simp] theorem md26_24 : mdT 26 (24 : Tmp) = .pure := rfl
theorem pl26 : plainB fi26 [] fi26.body = true := by kernel_rfl
@[simp] theorem kp26_0 (s : St) : s.keep fi26 0 = s := rfl
@[simp] theorem kp26_1 (s : St) : s.keep fi26 1 = s := rfl
@[simp] theorem kp26_2 (s : St) : s.keep fi26 2 = s := rfl
@[simp] theorem res26 (s : St) : resultsD (env G) fi26 s = some (s.sl.getD 0 .dead) := rfl

noncomputable def fi27 : FI := ⟨1, 36, [.tmp 2], Tryd.f27.body.getD .skip, mdT 27, kpT 27⟩
theorem ef27' : (env G).fn 27 = some fi27 := by rw [ef27]; simp only [ofFunc, Tryd.f27, fi27]; rfl
theorem or27 : (env G).orc 27 = none := rfl
@[simp] theorem body27 : fi27.body = Tryd.f27.body.getD .skip := rfl
@[simp] theorem np27 : fi27.np = 1 := rfl
@[simp] theorem nt27 : fi27.nt = 36 := rfl
@[simp] theorem fim27 (t : Nat) : fi27.mode t = mdT 27 t := rfl
theorem dr27_9 {call : CallF} (s : St) : drawRun (env G) fi27 call 9 #[{ dst := (some 28), op := (Go.Op.move (Go.Operand.tmp 3)), type := 26, pos := "mdoc.go:36", after := #[], guard := none }, { dst := (some 29), op := (Go.Op.fieldAddr 54 (Go.Operand.tmp 6) 0), type := 0, pos := "mdoc.go:36", after := #[], guard := none }, { dst := (some 30), op := (Go.Op.load 26 (Go.Operand.tmp 29)), type := 26, pos := "mdoc.go:36", after := #[{ on := 1, ground := Go.Ground.data }], guard := none }, { dst := (some 31), op := (Go.Op.call { callee := (Go.Callee.builtin Go.Builtin.append), args := #[(Go.Operand.tmp 28), (Go.Operand.tmp 30)], argTypes := #[26, 26] }), type := 26, pos := "mdoc.go:36", after := #[{ on := 0, ground := Go.Ground.data }, { on := 2, ground := Go.Ground.data }], guard := none }, { dst := (some 32), op := (Go.Op.fieldAddr 54 (Go.Operand.tmp 6) 2), type := 0, pos := "mdoc.go:36", after := #[{ on := 6, ground := (Go.Ground.gcOnly Go.Departure.lateStores) }], guard := none }, { dst := (some 33), op := (Go.Op.load 4 (Go.Operand.tmp 32)), type := 4, pos := "mdoc.go:36", after := #[{ on := 4, ground := Go.Ground.data }, { on := 6, ground := (Go.Ground.gcOnly Go.Departure.lateStores) }], guard := none }, { dst := (some 3), op := (Go.Op.assign (Go.Operand.tmp 31)), type := 26, pos := "mdoc.go:36", after := #[{ on := 3, ground := Go.Ground.data }, { on := 3, ground := Go.Ground.chain }, { on := 0, ground := Go.Ground.phase }, { on := 1, ground := Go.Ground.phase }, { on := 2, ground := Go.Ground.phase }, { on := 3, ground := Go.Ground.phase }, { on := 4, ground := (Go.Ground.textOnly Go.Departure.lateStores) }, { on := 5, ground := (Go.Ground.textOnly Go.Departure.lateStores) }], guard := none }, { dst := (some 4), op := (Go.Op.assign (Go.Operand.tmp 33)), type := 4, pos := "mdoc.go:36", after := #[{ on := 5, ground := Go.Ground.data }, { on := 6, ground := Go.Ground.chain }, { on := 0, ground := Go.Ground.phase }, { on := 1, ground := Go.Ground.phase }, { on := 2, ground := Go.Ground.phase }, { on := 3, ground := Go.Ground.phase }, { on := 4, ground := Go.Ground.phase }, { on := 5, ground := Go.Ground.phase }, { on := 6, ground := Go.Ground.phase }], guard := none }] s = drawT (env G) fi27 call #[{ dst := (some 28), op := (Go.Op.move (Go.Operand.tmp 3)), type := 26, pos := "mdoc.go:36", after := #[], guard := none }, { dst := (some 29), op := (Go.Op.fieldAddr 54 (Go.Operand.tmp 6) 0), type := 0, pos := "mdoc.go:36", after := #[], guard := none }, { dst := (some 30), op := (Go.Op.load 26 (Go.Operand.tmp 29)), type := 26, pos := "mdoc.go:36", after := #[{ on := 1, ground := Go.Ground.data }], guard := none }, { dst := (some 31), op := (Go.Op.call { callee := (Go.Callee.builtin Go.Builtin.append), args := #[(Go.Operand.tmp 28), (Go.Operand.tmp 30)], argTypes := #[26, 26] }), type := 26, pos := "mdoc.go:36", after := #[{ on := 0, ground := Go.Ground.data }, { on := 2, ground := Go.Ground.data }], guard := none }, { dst := (some 32), op := (Go.Op.fieldAddr 54 (Go.Operand.tmp 6) 2), type := 0, pos := "mdoc.go:36", after := #[{ on := 6, ground := (Go.Ground.gcOnly Go.Departure.lateStores) }], guard := none }, { dst := (some 33), op := (Go.Op.load 4 (Go.Operand.tmp 32)), type := 4, pos := "mdoc.go:36", after := #[{ on := 4, ground := Go.Ground.data }, { on := 6, ground := (Go.Ground.gcOnly Go.Departure.lateStores) }], guard := none }, { dst := (some 3), op := (Go.Op.assign (Go.Operand.tmp 31)), type := 26, pos := "mdoc.go:36", after := #[{ on := 3, ground := Go.Ground.data }, { on := 3, ground := Go.Ground.chain }, { on := 0, ground := Go.Ground.phase }, { on := 1, ground := Go.Ground.phase }, { on := 2, ground := Go.Ground.phase }, { on := 3, ground := Go.Ground.phase }, { on := 4, ground := (Go.Ground.textOnly Go.Departure.lateStores) }, { on := 5, ground := (Go.Ground.textOnly Go.Departure.lateStores) }], guard := none }, { dst := (some 4), op := (Go.Op.assign (Go.Operand.tmp 33)), type := 4, pos := "mdoc.go:36", after := #[{ on := 5, ground := Go.Ground.data }, { on := 6, ground := Go.Ground.chain }, { on := 0, ground := Go.Ground.phase }, { on := 1, ground := Go.Ground.phase }, { on := 2, ground := Go.Ground.phase }, { on := 3, ground := Go.Ground.phase }, { on := 4, ground := Go.Ground.phase }, { on := 5, ground := Go.Ground.phase }, { on := 6, ground := Go.Ground.phase }], guard := none }] [(5, 3)] s := draw_eq (by kernel_rfl) s
theorem pl27 : plainB fi27 [9] fi27.body = true := by kernel_rfl
@[simp] theorem kp27_0 (s : St) : s.keep fi27 0 = s := rfl
@[simp] theorem kp27_1 (s : St) : s.keep fi27 1 = s := rfl
@[simp] theorem kp27_2 (s : St) : s.keep fi27 2 = s := rfl
@[simp] theorem kp27_3 (s : St) : s.keep fi27 3 = s := rfl
@[simp] theorem kp27_4 (s : St) : s.keep fi27 4 = { s with sl := keepL [3, 4, 7, 8, 9] 0 s.sl } := rfl
@[simp] theorem kp27_5 (s : St) : s.keep fi27 5 = s := rfl
@[simp] theorem kp27_6 (s : St) : s.keep fi27 6 = s := rfl
@[simp] theorem kp27_7 (s : St) : s.keep fi27 7 = s := rfl
@[simp] theorem kp27_8 (s : St) : s.keep fi27 8 = s := rfl
@[simp] theorem kp27_9 (s : St) : s.keep fi27 9 = s := rfl
@[simp] theorem kp27_10 (s : St) : s.keep fi27 10 = s := rfl
@[simp] theorem kp27_11 (s : St) : s.keep fi27 11 = s := rfl
@[simp] theorem res27 (s : St) : resultsD (env G) fi27 s = some (s.sl.getD 2 .dead) := rfl

noncomputable def fi56 : FI := ⟨2, 25, [.cell 4 23], Tryd.f56.body.getD .skip, mdT 56, kpT 56⟩
theorem ef56' : (env G).fn 56 = some fi56 := by rw [ef56]; simp only [ofFunc, Tryd.f56, fi56]; rfl
theorem or56 : (env G).orc 56 = none := rfl
@[simp] theorem body56 : fi56.body = Tryd.f56.body.getD .skip := rfl
@[simp] theorem np56 : fi56.np = 2 := rfl
@[simp] theorem nt56 : fi56.nt = 25 := rfl
@[simp] theorem fim56 (t : Nat) : fi56.mode t = mdT 56 t := rfl
theorem pl56 : plainB fi56 [] fi56.body = true := by kernel_rfl
@[simp] theorem kp56_0 (s : St) : s.keep fi56 0 = s := rfl
@[simp] theorem kp56_1 (s : St) : s.keep fi56 1 = s := rfl
@[simp] theorem kp56_2 (s : St) : s.keep fi56 2 = s := rfl
@[simp] theorem kp56_3 (s : St) : s.keep fi56 3 = s := rfl
@[simp] theorem kp56_4 (s : St) : s.keep fi56 4 = s := rfl
@[simp] theorem kp56_5 (s : St) : s.keep fi56 5 = s := rfl
@[simp] theorem kp56_6 (s : St) : s.keep fi56 6 = s := rfl
@[simp] theorem kp56_7 (s : St) : s.keep fi56 7 = s := rfl
@[simp] theorem kp56_8 (s : St) : s.keep fi56 8 = s := rfl
@[simp] theorem kp56_9 (s : St) : s.keep fi56 9 = s := rfl
@[simp] theorem res56 (s : St) : resultsD (env G) fi56 s = (match resL (env G) s [.cell 4 23] with | some [d] => some d | some ds => some (.tup ds) | none => none) := rfl

noncomputable def fi58 : FI := ⟨1, 8, [.tmp 2], Tryd.f58.body.getD .skip, mdT 58, kpT 58⟩
theorem ef58' : (env G).fn 58 = some fi58 := by rw [ef58]; simp only [ofFunc, Tryd.f58, fi58]; rfl
@[simp] theorem body58 : fi58.body = Tryd.f58.body.getD .skip := rfl
@[simp] theorem np58 : fi58.np = 1 := rfl
@[simp] theorem nt58 : fi58.nt = 8 := rfl
@[simp] theorem fim58 (t : Nat) : fi58.mode t = mdT 58 t := rfl
theorem pl58 : plainB fi58 [] fi58.body = true := by kernel_rfl
@[simp] theorem kp58_0 (s : St) : s.keep fi58 0 = s := rfl
@[simp] theorem kp58_1 (s : St) : s.keep fi58 1 = s := rfl
@[simp] theorem kp58_2 (s : St) : s.keep fi58 2 = s := rfl
@[simp] theorem kp58_3 (s : St) : s.keep fi58 3 = s := rfl
@[simp] theorem res58 (s : St) : resultsD (env G) fi58 s = some (s.sl.getD 2 .dead) := rfl

noncomputable def fi59 : FI := ⟨1, 36, [.tmp 2], Tryd.f59.body.getD .skip, mdT 59, kpT 59⟩
theorem ef59' : (env G).fn 59 = some fi59 := by rw [ef59]; simp only [ofFunc, Tryd.f59, fi59]; rfl
theorem or59 : (env G).orc 59 = none := rfl
@[simp] theorem body59 : fi59.body = Tryd.f59.body.getD .skip := rfl
@[simp] theorem np59 : fi59.np = 1 := rfl
@[simp] theorem nt59 : fi59.nt = 36 := rfl
@[simp] theorem fim59 (t : Nat) : fi59.mode t = mdT 59 t := rfl
@[simp] theorem md59_24 : mdT 59 (24 : Tmp) = .raw := rfl
theorem pl59 : plainB fi59 [] fi59.body = true := by kernel_rfl
@[simp] theorem kp59_0 (s : St) : s.keep fi59 0 = s := rfl
@[simp] theorem kp59_1 (s : St) : s.keep fi59 1 = s := rfl
@[simp] theorem kp59_2 (s : St) : s.keep fi59 2 = s := rfl
@[simp] theorem kp59_3 (s : St) : s.keep fi59 3 = { s with sl := keepL [0, 3, 9, 10, 11] 0 s.sl } := rfl
@[simp] theorem kp59_4 (s : St) : s.keep fi59 4 = s := rfl
@[simp] theorem kp59_5 (s : St) : s.keep fi59 5 = s := rfl
@[simp] theorem kp59_6 (s : St) : s.keep fi59 6 = s := rfl
@[simp] theorem kp59_7 (s : St) : s.keep fi59 7 = s := rfl
@[simp] theorem kp59_8 (s : St) : s.keep fi59 8 = s := rfl
@[simp] theorem kp59_9 (s : St) : s.keep fi59 9 = s := rfl
@[simp] theorem kp59_10 (s : St) : s.keep fi59 10 = s := rfl
@[simp] theorem kp59_11 (s : St) : s.keep fi59 11 = { s with sl := keepL [6, 25, 26, 27] 0 s.sl } := rfl
@[simp] theorem kp59_12 (s : St) : s.keep fi59 12 = s := rfl
@[simp] theorem kp59_13 (s : St) : s.keep fi59 13 = s := rfl
@[simp] theorem kp59_14 (s : St) : s.keep fi59 14 = s := rfl
@[simp] theorem kp59_15 (s : St) : s.keep fi59 15 = s := rfl
@[simp] theorem res59 (s : St) : resultsD (env G) fi59 s = some (s.sl.getD 2 .dead) := rfl

noncomputable def fi100 : FI := ⟨2, 27, [.tmp 4], Tryd.f100.body.getD .skip, mdT 100, kpT 100⟩
theorem ef100' : (env G).fn 100 = some fi100 := by rw [ef100]; simp only [ofFunc, Tryd.f100, fi100]; rfl
theorem or100 : (env G).orc 100 = none := rfl
@[simp] theorem body100 : fi100.body = Tryd.f100.body.getD .skip := rfl
@[simp] theorem np100 : fi100.np = 2 := rfl
@[simp] theorem nt100 : fi100.nt = 27 := rfl
@[simp] theorem fim100 (t : Nat) : fi100.mode t = mdT 100 t := rfl
theorem pl100 : plainB fi100 [] fi100.body = true := by kernel_rfl
@[simp] theorem kp100_0 (s : St) : s.keep fi100 0 = s := rfl
@[simp] theorem kp100_1 (s : St) : s.keep fi100 1 = s := rfl
@[simp] theorem kp100_2 (s : St) : s.keep fi100 2 = s := rfl
@[simp] theorem kp100_3 (s : St) : s.keep fi100 3 = s := rfl
@[simp] theorem kp100_4 (s : St) : s.keep fi100 4 = s := rfl
@[simp] theorem kp100_5 (s : St) : s.keep fi100 5 = s := rfl
@[simp] theorem kp100_6 (s : St) : s.keep fi100 6 = s := rfl
@[simp] theorem res100 (s : St) : resultsD (env G) fi100 s = some (s.sl.getD 4 .dead) := rfl

end Go.Proofs.YtgilkaonmhlifaaDoor.Dn
