/- Each function's record: written by boil.py. -/
import Derived.Test.YtgilkaonmhlifaaDoorLnDenT
namespace Go.Proofs.YtgilkaonmhlifaaDoor.Dn
open Go.Den
set_option maxRecDepth 100000
variable {G : Nat → Option (List D)}

noncomputable def fi3 : FI := ⟨4, 172, [.tmp 8], Tryd.f3.body.getD .skip, mdT 3, kpT 3⟩
theorem ef3' : (env G).fn 3 = some fi3 := by rw [ef3]; simp only [ofFunc, Tryd.f3, fi3]; rfl
theorem or3 : (env G).orc 3 = none := rfl
@[simp] theorem body3 : fi3.body = Tryd.f3.body.getD .skip := rfl
@[simp] theorem np3 : fi3.np = 4 := rfl
@[simp] theorem nt3 : fi3.nt = 172 := rfl
@[simp] theorem fim3 (t : Nat) : fi3.mode t = mdT 3 t := rfl
@[simp] theorem md3_32 : mdT 3 (32 : Tmp) = .pure := rfl
@[simp] theorem md3_42 : mdT 3 (42 : Tmp) = .pure := rfl
@[simp] theorem md3_48 : mdT 3 (48 : Tmp) = .pure := rfl
@[simp] theorem md3_54 : mdT 3 (54 : Tmp) = .pure := rfl
@[simp] theorem md3_60 : mdT 3 (60 : Tmp) = .pure := rfl
@[simp] theorem md3_61 : mdT 3 (61 : Tmp) = .pure := rfl
@[simp] theorem md3_90 : mdT 3 (90 : Tmp) = .pure := rfl
@[simp] theorem md3_94 : mdT 3 (94 : Tmp) = .pure := rfl
@[simp] theorem md3_165 : mdT 3 (165 : Tmp) = .pure := rfl
@[simp] theorem md3_170 : mdT 3 (170 : Tmp) = .pure := rfl
theorem pl3 : plainB fi3 [] fi3.body = true := by kernel_rfl
@[simp] theorem kp3_0 (s : St) : s.keep fi3 0 = s := rfl
@[simp] theorem kp3_1 (s : St) : s.keep fi3 1 = s := rfl
@[simp] theorem kp3_2 (s : St) : s.keep fi3 2 = s := rfl
@[simp] theorem kp3_3 (s : St) : s.keep fi3 3 = s := rfl
@[simp] theorem kp3_4 (s : St) : s.keep fi3 4 = s := rfl
@[simp] theorem kp3_5 (s : St) : s.keep fi3 5 = s := rfl
@[simp] theorem kp3_6 (s : St) : s.keep fi3 6 = s := rfl
@[simp] theorem kp3_7 (s : St) : s.keep fi3 7 = s := rfl
@[simp] theorem kp3_8 (s : St) : s.keep fi3 8 = s := rfl
@[simp] theorem kp3_9 (s : St) : s.keep fi3 9 = s := rfl
@[simp] theorem kp3_10 (s : St) : s.keep fi3 10 = s := rfl
@[simp] theorem kp3_11 (s : St) : s.keep fi3 11 = s := rfl
@[simp] theorem kp3_12 (s : St) : s.keep fi3 12 = { s with sl := keepL [3, 4, 16] 0 s.sl } := rfl
@[simp] theorem kp3_13 (s : St) : s.keep fi3 13 = s := rfl
@[simp] theorem kp3_14 (s : St) : s.keep fi3 14 = s := rfl
@[simp] theorem kp3_15 (s : St) : s.keep fi3 15 = s := rfl
@[simp] theorem kp3_16 (s : St) : s.keep fi3 16 = s := rfl
@[simp] theorem kp3_17 (s : St) : s.keep fi3 17 = s := rfl
@[simp] theorem kp3_18 (s : St) : s.keep fi3 18 = { s with sl := keepL [3, 4, 17, 18, 19, 20] 0 s.sl } := rfl
@[simp] theorem kp3_19 (s : St) : s.keep fi3 19 = s := rfl
@[simp] theorem kp3_20 (s : St) : s.keep fi3 20 = s := rfl
@[simp] theorem kp3_21 (s : St) : s.keep fi3 21 = s := rfl
@[simp] theorem kp3_22 (s : St) : s.keep fi3 22 = s := rfl
@[simp] theorem res3 (s : St) : resultsD (env G) fi3 s = some (s.sl.getD 8 .dead) := rfl

noncomputable def fi4 : FI := ⟨3, 67, [.tmp 6], Tryd.f4.body.getD .skip, mdT 4, kpT 4⟩
theorem ef4' : (env G).fn 4 = some fi4 := by rw [ef4]; simp only [ofFunc, Tryd.f4, fi4]; rfl
theorem or4 : (env G).orc 4 = none := rfl
@[simp] theorem body4 : fi4.body = Tryd.f4.body.getD .skip := rfl
@[simp] theorem np4 : fi4.np = 3 := rfl
@[simp] theorem nt4 : fi4.nt = 67 := rfl
@[simp] theorem fim4 (t : Nat) : fi4.mode t = mdT 4 t := rfl
@[simp] theorem md4_18 : mdT 4 (18 : Tmp) = .pure := rfl
@[simp] theorem md4_21 : mdT 4 (21 : Tmp) = .pure := rfl
@[simp] theorem md4_44 : mdT 4 (44 : Tmp) = .pure := rfl
@[simp] theorem md4_48 : mdT 4 (48 : Tmp) = .pure := rfl
@[simp] theorem md4_49 : mdT 4 (49 : Tmp) = .pure := rfl
@[simp] theorem md4_50 : mdT 4 (50 : Tmp) = .pure := rfl
@[simp] theorem md4_54 : mdT 4 (54 : Tmp) = .pure := rfl
@[simp] theorem md4_56 : mdT 4 (56 : Tmp) = .pure := rfl
@[simp] theorem md4_60 : mdT 4 (60 : Tmp) = .pure := rfl
@[simp] theorem md4_62 : mdT 4 (62 : Tmp) = .pure := rfl
@[simp] theorem md4_65 : mdT 4 (65 : Tmp) = .pure := rfl
theorem pl4 : plainB fi4 [] fi4.body = true := by kernel_rfl
@[simp] theorem kp4_0 (s : St) : s.keep fi4 0 = s := rfl
@[simp] theorem kp4_1 (s : St) : s.keep fi4 1 = s := rfl
@[simp] theorem kp4_2 (s : St) : s.keep fi4 2 = s := rfl
@[simp] theorem kp4_3 (s : St) : s.keep fi4 3 = s := rfl
@[simp] theorem kp4_4 (s : St) : s.keep fi4 4 = s := rfl
@[simp] theorem kp4_5 (s : St) : s.keep fi4 5 = s := rfl
@[simp] theorem kp4_6 (s : St) : s.keep fi4 6 = s := rfl
@[simp] theorem kp4_7 (s : St) : s.keep fi4 7 = s := rfl
@[simp] theorem res4 (s : St) : resultsD (env G) fi4 s = some (s.sl.getD 6 .dead) := rfl

noncomputable def fi15 : FI := ⟨2, 42, [.tmp 4, .cell 5 23], Tryd.f15.body.getD .skip, mdT 15, kpT 15⟩
theorem ef15' : (env G).fn 15 = some fi15 := by rw [ef15]; simp only [ofFunc, Tryd.f15, fi15]; rfl
theorem or15 : (env G).orc 15 = none := rfl
@[simp] theorem body15 : fi15.body = Tryd.f15.body.getD .skip := rfl
@[simp] theorem np15 : fi15.np = 2 := rfl
@[simp] theorem nt15 : fi15.nt = 42 := rfl
@[simp] theorem fim15 (t : Nat) : fi15.mode t = mdT 15 t := rfl
@[simp] theorem md15_38 : mdT 15 (38 : Tmp) = .pure := rfl
theorem pl15 : plainB fi15 [] fi15.body = true := by kernel_rfl
@[simp] theorem kp15_0 (s : St) : s.keep fi15 0 = s := rfl
@[simp] theorem kp15_1 (s : St) : s.keep fi15 1 = s := rfl
@[simp] theorem kp15_2 (s : St) : s.keep fi15 2 = s := rfl
@[simp] theorem kp15_3 (s : St) : s.keep fi15 3 = { s with sl := keepL [2, 5, 6, 9, 10, 11] 0 s.sl } := rfl
@[simp] theorem kp15_4 (s : St) : s.keep fi15 4 = s := rfl
@[simp] theorem kp15_5 (s : St) : s.keep fi15 5 = s := rfl
@[simp] theorem kp15_6 (s : St) : s.keep fi15 6 = s := rfl
@[simp] theorem kp15_7 (s : St) : s.keep fi15 7 = s := rfl
@[simp] theorem kp15_8 (s : St) : s.keep fi15 8 = s := rfl
@[simp] theorem kp15_9 (s : St) : s.keep fi15 9 = s := rfl
@[simp] theorem kp15_10 (s : St) : s.keep fi15 10 = s := rfl
@[simp] theorem kp15_11 (s : St) : s.keep fi15 11 = s := rfl
@[simp] theorem kp15_12 (s : St) : s.keep fi15 12 = s := rfl
@[simp] theorem kp15_13 (s : St) : s.keep fi15 13 = s := rfl
@[simp] theorem res15 (s : St) : resultsD (env G) fi15 s = (match resL (env G) s [.tmp 4, .cell 5 23] with | some [d] => some d | some ds => some (.tup ds) | none => none) := rfl

noncomputable def fi16 : FI := ⟨2, 26, [.tmp 4], Tryd.f16.body.getD .skip, mdT 16, kpT 16⟩
theorem ef16' : (env G).fn 16 = some fi16 := by rw [ef16]; simp only [ofFunc, Tryd.f16, fi16]; rfl
theorem or16 : (env G).orc 16 = none := rfl
@[simp] theorem body16 : fi16.body = Tryd.f16.body.getD .skip := rfl
@[simp] theorem np16 : fi16.np = 2 := rfl
@[simp] theorem nt16 : fi16.nt = 26 := rfl
@[simp] theorem fim16 (t : Nat) : fi16.mode t = mdT 16 t := rfl
theorem pl16 : plainB fi16 [] fi16.body = true := by kernel_rfl
@[simp] theorem kp16_0 (s : St) : s.keep fi16 0 = s := rfl
@[simp] theorem kp16_1 (s : St) : s.keep fi16 1 = s := rfl
@[simp] theorem kp16_2 (s : St) : s.keep fi16 2 = s := rfl
@[simp] theorem kp16_3 (s : St) : s.keep fi16 3 = s := rfl
@[simp] theorem kp16_4 (s : St) : s.keep fi16 4 = { s with sl := keepL [0, 1, 5] 0 s.sl } := rfl
@[simp] theorem kp16_5 (s : St) : s.keep fi16 5 = s := rfl
@[simp] theorem kp16_6 (s : St) : s.keep fi16 6 = s := rfl
@[simp] theorem kp16_7 (s : St) : s.keep fi16 7 = s := rfl
@[simp] theorem kp16_8 (s : St) : s.keep fi16 8 = s := rfl
@[simp] theorem res16 (s : St) : resultsD (env G) fi16 s = some (s.sl.getD 4 .dead) := rfl

noncomputable def fi17 : FI := ⟨2, 12, [.tmp 4], Tryd.f17.body.getD .skip, mdT 17, kpT 17⟩
theorem ef17' : (env G).fn 17 = some fi17 := by rw [ef17]; simp only [ofFunc, Tryd.f17, fi17]; rfl
theorem or17 : (env G).orc 17 = none := rfl
@[simp] theorem body17 : fi17.body = Tryd.f17.body.getD .skip := rfl
@[simp] theorem np17 : fi17.np = 2 := rfl
@[simp] theorem nt17 : fi17.nt = 12 := rfl
@[simp] theorem fim17 (t : Nat) : fi17.mode t = mdT 17 t := rfl
theorem pl17 : plainB fi17 [] fi17.body = true := by kernel_rfl
@[simp] theorem kp17_0 (s : St) : s.keep fi17 0 = s := rfl
@[simp] theorem kp17_1 (s : St) : s.keep fi17 1 = s := rfl
@[simp] theorem kp17_2 (s : St) : s.keep fi17 2 = s := rfl
@[simp] theorem kp17_3 (s : St) : s.keep fi17 3 = s := rfl
@[simp] theorem res17 (s : St) : resultsD (env G) fi17 s = some (s.sl.getD 4 .dead) := rfl

noncomputable def fi18 : FI := ⟨2, 24, [.tmp 4, .cell 5 23, .tmp 6], Tryd.f18.body.getD .skip, mdT 18, kpT 18⟩
theorem ef18' : (env G).fn 18 = some fi18 := by rw [ef18]; simp only [ofFunc, Tryd.f18, fi18]; rfl
theorem or18 : (env G).orc 18 = none := rfl
@[simp] theorem body18 : fi18.body = Tryd.f18.body.getD .skip := rfl
@[simp] theorem np18 : fi18.np = 2 := rfl
@[simp] theorem nt18 : fi18.nt = 24 := rfl
@[simp] theorem fim18 (t : Nat) : fi18.mode t = mdT 18 t := rfl
@[simp] theorem md18_12 : mdT 18 (12 : Tmp) = .pure := rfl
@[simp] theorem md18_18 : mdT 18 (18 : Tmp) = .pure := rfl
theorem pl18 : plainB fi18 [] fi18.body = true := by kernel_rfl
@[simp] theorem kp18_0 (s : St) : s.keep fi18 0 = s := rfl
@[simp] theorem kp18_1 (s : St) : s.keep fi18 1 = s := rfl
@[simp] theorem kp18_2 (s : St) : s.keep fi18 2 = s := rfl
@[simp] theorem kp18_3 (s : St) : s.keep fi18 3 = s := rfl
@[simp] theorem res18 (s : St) : resultsD (env G) fi18 s = (match resL (env G) s [.tmp 4, .cell 5 23, .tmp 6] with | some [d] => some d | some ds => some (.tup ds) | none => none) := rfl

noncomputable def fi19 : FI := ⟨2, 24, [.cell 4 23], Tryd.f19.body.getD .skip, mdT 19, kpT 19⟩
theorem ef19' : (env G).fn 19 = some fi19 := by rw [ef19]; simp only [ofFunc, Tryd.f19, fi19]; rfl
theorem or19 : (env G).orc 19 = none := rfl
@[simp] theorem body19 : fi19.body = Tryd.f19.body.getD .skip := rfl
@[simp] theorem np19 : fi19.np = 2 := rfl
@[simp] theorem nt19 : fi19.nt = 24 := rfl
@[simp] theorem fim19 (t : Nat) : fi19.mode t = mdT 19 t := rfl
theorem pl19 : plainB fi19 [] fi19.body = true := by kernel_rfl
@[simp] theorem kp19_0 (s : St) : s.keep fi19 0 = s := rfl
@[simp] theorem kp19_1 (s : St) : s.keep fi19 1 = s := rfl
@[simp] theorem kp19_2 (s : St) : s.keep fi19 2 = s := rfl
@[simp] theorem kp19_3 (s : St) : s.keep fi19 3 = s := rfl
@[simp] theorem kp19_4 (s : St) : s.keep fi19 4 = s := rfl
@[simp] theorem kp19_5 (s : St) : s.keep fi19 5 = s := rfl
@[simp] theorem res19 (s : St) : resultsD (env G) fi19 s = (match resL (env G) s [.cell 4 23] with | some [d] => some d | some ds => some (.tup ds) | none => none) := rfl

noncomputable def fi20 : FI := ⟨2, 23, [.tmp 4], Tryd.f20.body.getD .skip, mdT 20, kpT 20⟩
theorem ef20' : (env G).fn 20 = some fi20 := by rw [ef20]; simp only [ofFunc, Tryd.f20, fi20]; rfl
theorem or20 : (env G).orc 20 = none := rfl
@[simp] theorem body20 : fi20.body = Tryd.f20.body.getD .skip := rfl
@[simp] theorem np20 : fi20.np = 2 := rfl
@[simp] theorem nt20 : fi20.nt = 23 := rfl
@[simp] theorem fim20 (t : Nat) : fi20.mode t = mdT 20 t := rfl
@[simp] theorem md20_10 : mdT 20 (10 : Tmp) = .pure := rfl
@[simp] theorem md20_16 : mdT 20 (16 : Tmp) = .pure := rfl
@[simp] theorem md20_22 : mdT 20 (22 : Tmp) = .pure := rfl
theorem pl20 : plainB fi20 [] fi20.body = true := by kernel_rfl
@[simp] theorem kp20_0 (s : St) : s.keep fi20 0 = s := rfl
@[simp] theorem kp20_1 (s : St) : s.keep fi20 1 = s := rfl
@[simp] theorem kp20_2 (s : St) : s.keep fi20 2 = s := rfl
@[simp] theorem kp20_3 (s : St) : s.keep fi20 3 = s := rfl
@[simp] theorem kp20_4 (s : St) : s.keep fi20 4 = s := rfl
@[simp] theorem kp20_5 (s : St) : s.keep fi20 5 = s := rfl
@[simp] theorem res20 (s : St) : resultsD (env G) fi20 s = some (s.sl.getD 4 .dead) := rfl

noncomputable def fi56 : FI := ⟨2, 25, [.cell 4 23], Tryd.f56.body.getD .skip, mdT 56, kpT 56⟩
theorem ef56' : (env G).fn 56 = some fi56 := by rw [ef56]; simp only [ofFunc, Tryd.f56, fi56]; rfl
theorem or56 : (env G).orc 56 = none := rfl
@[simp] theorem body56 : fi56.body = Tryd.f56.body.getD .skip := rfl
@[simp] theorem np56 : fi56.np = 2 := rfl
@[simp] theorem nt56 : fi56.nt = 25 := rfl
@[simp] theorem fim56 (t : Nat) : fi56.mode t = mdT 56 t := rfl
theorem pl56 : plainB fi56 [] fi56.body = true := by kernel_rfl
@[simp] theorem kp56_0 (s : St) : s.keep fi56 0 = s := rfl
@[simp] theorem kp56_1 (s : St) : s.keep fi56 1 = s := rfl
@[simp] theorem kp56_2 (s : St) : s.keep fi56 2 = s := rfl
@[simp] theorem kp56_3 (s : St) : s.keep fi56 3 = s := rfl
@[simp] theorem kp56_4 (s : St) : s.keep fi56 4 = s := rfl
@[simp] theorem kp56_5 (s : St) : s.keep fi56 5 = s := rfl
@[simp] theorem kp56_6 (s : St) : s.keep fi56 6 = s := rfl
@[simp] theorem kp56_7 (s : St) : s.keep fi56 7 = s := rfl
@[simp] theorem kp56_8 (s : St) : s.keep fi56 8 = s := rfl
@[simp] theorem kp56_9 (s : St) : s.keep fi56 9 = s := rfl
@[simp] theorem res56 (s : St) : resultsD (env G) fi56 s = (match resL (env G) s [.cell 4 23] with | some [d] => some d | some ds => some (.tup ds) | none => none) := rfl

noncomputable def fi57 : FI := ⟨1, 74, [.tmp 2, .tmp 3], Tryd.f57.body.getD .skip, mdT 57, kpT 57⟩
theorem ef57' : (env G).fn 57 = some fi57 := by rw [ef57]; simp only [ofFunc, Tryd.f57, fi57]; rfl
theorem or57 : (env G).orc 57 = none := rfl
@[simp] theorem body57 : fi57.body = Tryd.f57.body.getD .skip := rfl
@[simp] theorem np57 : fi57.np = 1 := rfl
@[simp] theorem nt57 : fi57.nt = 74 := rfl
@[simp] theorem fim57 (t : Nat) : fi57.mode t = mdT 57 t := rfl
@[simp] theorem md57_9 : mdT 57 (9 : Tmp) = .pure := rfl
@[simp] theorem md57_53 : mdT 57 (53 : Tmp) = .pure := rfl
@[simp] theorem md57_55 : mdT 57 (55 : Tmp) = .raw := rfl
@[simp] theorem md57_58 : mdT 57 (58 : Tmp) = .raw := rfl
@[simp] theorem md57_62 : mdT 57 (62 : Tmp) = .raw := rfl
@[simp] theorem md57_65 : mdT 57 (65 : Tmp) = .raw := rfl
theorem pl57 : plainB fi57 [] fi57.body = true := by kernel_rfl
@[simp] theorem kp57_0 (s : St) : s.keep fi57 0 = s := rfl
@[simp] theorem kp57_1 (s : St) : s.keep fi57 1 = s := rfl
@[simp] theorem kp57_2 (s : St) : s.keep fi57 2 = { s with sl := keepL [4] 0 s.sl } := rfl
@[simp] theorem kp57_3 (s : St) : s.keep fi57 3 = s := rfl
@[simp] theorem kp57_4 (s : St) : s.keep fi57 4 = s := rfl
@[simp] theorem kp57_5 (s : St) : s.keep fi57 5 = s := rfl
@[simp] theorem kp57_6 (s : St) : s.keep fi57 6 = s := rfl
@[simp] theorem kp57_7 (s : St) : s.keep fi57 7 = s := rfl
@[simp] theorem kp57_8 (s : St) : s.keep fi57 8 = s := rfl
@[simp] theorem kp57_9 (s : St) : s.keep fi57 9 = s := rfl
@[simp] theorem kp57_10 (s : St) : s.keep fi57 10 = s := rfl
@[simp] theorem kp57_11 (s : St) : s.keep fi57 11 = s := rfl
@[simp] theorem kp57_12 (s : St) : s.keep fi57 12 = s := rfl
@[simp] theorem kp57_13 (s : St) : s.keep fi57 13 = s := rfl
@[simp] theorem kp57_14 (s : St) : s.keep fi57 14 = s := rfl
@[simp] theorem res57 (s : St) : resultsD (env G) fi57 s = some (.tup [s.sl.getD 2 .dead, s.sl.getD 3 .dead]) := rfl

noncomputable def fi58 : FI := ⟨1, 8, [.tmp 2], Tryd.f58.body.getD .skip, mdT 58, kpT 58⟩
theorem ef58' : (env G).fn 58 = some fi58 := by rw [ef58]; simp only [ofFunc, Tryd.f58, fi58]; rfl
@[simp] theorem body58 : fi58.body = Tryd.f58.body.getD .skip := rfl
@[simp] theorem np58 : fi58.np = 1 := rfl
@[simp] theorem nt58 : fi58.nt = 8 := rfl
@[simp] theorem fim58 (t : Nat) : fi58.mode t = mdT 58 t := rfl
theorem pl58 : plainB fi58 [] fi58.body = true := by kernel_rfl
@[simp] theorem kp58_0 (s : St) : s.keep fi58 0 = s := rfl
@[simp] theorem kp58_1 (s : St) : s.keep fi58 1 = s := rfl
@[simp] theorem kp58_2 (s : St) : s.keep fi58 2 = s := rfl
@[simp] theorem kp58_3 (s : St) : s.keep fi58 3 = s := rfl
@[simp] theorem res58 (s : St) : resultsD (env G) fi58 s = some (s.sl.getD 2 .dead) := rfl

noncomputable def fi59 : FI := ⟨1, 36, [.tmp 2], Tryd.f59.body.getD .skip, mdT 59, kpT 59⟩
theorem ef59' : (env G).fn 59 = some fi59 := by rw [ef59]; simp only [ofFunc, Tryd.f59, fi59]; rfl
theorem or59 : (env G).orc 59 = none := rfl
@[simp] theorem body59 : fi59.body = Tryd.f59.body.getD .skip := rfl
@[simp] theorem np59 : fi59.np = 1 := rfl
@[simp] theorem nt59 : fi59.nt = 36 := rfl
@[simp] theorem fim59 (t : Nat) : fi59.mode t = mdT 59 t := rfl
@[simp] theorem md59_24 : mdT 59 (24 : Tmp) = .raw := rfl
theorem pl59 : plainB fi59 [] fi59.body = true := by kernel_rfl
@[simp] theorem kp59_0 (s : St) : s.keep fi59 0 = s := rfl
@[simp] theorem kp59_1 (s : St) : s.keep fi59 1 = s := rfl
@[simp] theorem kp59_2 (s : St) : s.keep fi59 2 = s := rfl
@[simp] theorem kp59_3 (s : St) : s.keep fi59 3 = { s with sl := keepL [0, 3, 9, 10, 11] 0 s.sl } := rfl
@[simp] theorem kp59_4 (s : St) : s.keep fi59 4 = s := rfl
@[simp] theorem kp59_5 (s : St) : s.keep fi59 5 = s := rfl
@[simp] theorem kp59_6 (s : St) : s.keep fi59 6 = s := rfl
@[simp] theorem kp59_7 (s : St) : s.keep fi59 7 = s := rfl
@[simp] theorem kp59_8 (s : St) : s.keep fi59 8 = s := rfl
@[simp] theorem kp59_9 (s : St) : s.keep fi59 9 = s := rfl
@[simp] theorem kp59_10 (s : St) : s.keep fi59 10 = s := rfl
@[simp] theorem kp59_11 (s : St) : s.keep fi59 11 = { s with sl := keepL [6, 25, 26, 27] 0 s.sl } := rfl
@[simp] theorem kp59_12 (s : St) : s.keep fi59 12 = s := rfl
@[simp] theorem kp59_13 (s : St) : s.keep fi59 13 = s := rfl
@[simp] theorem kp59_14 (s : St) : s.keep fi59 14 = s := rfl
@[simp] theorem kp59_15 (s : St) : s.keep fi59 15 = s := rfl
@[simp] theorem res59 (s : St) : resultsD (env G) fi59 s = some (s.sl.getD 2 .dead) := rfl

noncomputable def fi95 : FI := ⟨1, 22, [.tmp 2], Tryd.f95.body.getD .skip, mdT 95, kpT 95⟩
theorem ef95' : (env G).fn 95 = some fi95 := by rw [ef95]; simp only [ofFunc, Tryd.f95, fi95]; rfl
theorem or95 : (env G).orc 95 = none := rfl
@[simp] theorem body95 : fi95.body = Tryd.f95.body.getD .skip := rfl
@[simp] theorem np95 : fi95.np = 1 := rfl
@[simp] theorem nt95 : fi95.nt = 22 := rfl
@[simp] theorem fim95 (t : Nat) : fi95.mode t = mdT 95 t := rfl
@[simp] theorem md95_11 : mdT 95 (11 : Tmp) = .pure := rfl
theorem pl95 : plainB fi95 [] fi95.body = true := by kernel_rfl
@[simp] theorem kp95_0 (s : St) : s.keep fi95 0 = s := rfl
@[simp] theorem kp95_1 (s : St) : s.keep fi95 1 = s := rfl
@[simp] theorem kp95_2 (s : St) : s.keep fi95 2 = { s with sl := keepL [0, 3] 0 s.sl } := rfl
@[simp] theorem kp95_3 (s : St) : s.keep fi95 3 = s := rfl
@[simp] theorem kp95_4 (s : St) : s.keep fi95 4 = s := rfl
@[simp] theorem kp95_5 (s : St) : s.keep fi95 5 = s := rfl
@[simp] theorem kp95_6 (s : St) : s.keep fi95 6 = s := rfl
@[simp] theorem res95 (s : St) : resultsD (env G) fi95 s = some (s.sl.getD 2 .dead) := rfl

noncomputable def fi96 : FI := ⟨3, 18, [], Tryd.f96.body.getD .skip, mdT 96, kpT 96⟩
theorem ef96' : (env G).fn 96 = some fi96 := by rw [ef96]; simp only [ofFunc, Tryd.f96, fi96]; rfl
theorem or96 : (env G).orc 96 = none := rfl
@[simp] theorem body96 : fi96.body = Tryd.f96.body.getD .skip := rfl
@[simp] theorem np96 : fi96.np = 3 := rfl
@[simp] theorem nt96 : fi96.nt = 18 := rfl
@[simp] theorem fim96 (t : Nat) : fi96.mode t = mdT 96 t := rfl
theorem pl96 : plainB fi96 [] fi96.body = true := by kernel_rfl
@[simp] theorem kp96_0 (s : St) : s.keep fi96 0 = s := rfl
@[simp] theorem res96 (s : St) : resultsD (env G) fi96 s = some (.tup []) := rfl

noncomputable def fi98 : FI := ⟨1, 21, [.tmp 2], Tryd.f98.body.getD .skip, mdT 98, kpT 98⟩
theorem ef98' : (env G).fn 98 = some fi98 := by rw [ef98]; simp only [ofFunc, Tryd.f98, fi98]; rfl
theorem or98 : (env G).orc 98 = none := rfl
@[simp] theorem body98 : fi98.body = Tryd.f98.body.getD .skip := rfl
@[simp] theorem np98 : fi98.np = 1 := rfl
@[simp] theorem nt98 : fi98.nt = 21 := rfl
@[simp] theorem fim98 (t : Nat) : fi98.mode t = mdT 98 t := rfl
theorem pl98 : plainB fi98 [] fi98.body = true := by kernel_rfl
@[simp] theorem kp98_0 (s : St) : s.keep fi98 0 = s := rfl
@[simp] theorem kp98_1 (s : St) : s.keep fi98 1 = s := rfl
@[simp] theorem kp98_2 (s : St) : s.keep fi98 2 = s := rfl
@[simp] theorem kp98_3 (s : St) : s.keep fi98 3 = s := rfl
@[simp] theorem kp98_4 (s : St) : s.keep fi98 4 = s := rfl
@[simp] theorem kp98_5 (s : St) : s.keep fi98 5 = s := rfl
@[simp] theorem kp98_6 (s : St) : s.keep fi98 6 = s := rfl
@[simp] theorem res98 (s : St) : resultsD (env G) fi98 s = some (s.sl.getD 2 .dead) := rfl

noncomputable def fi100 : FI := ⟨2, 27, [.tmp 4], Tryd.f100.body.getD .skip, mdT 100, kpT 100⟩
theorem ef100' : (env G).fn 100 = some fi100 := by rw [ef100]; simp only [ofFunc, Tryd.f100, fi100]; rfl
theorem or100 : (env G).orc 100 = none := rfl
@[simp] theorem body100 : fi100.body = Tryd.f100.body.getD .skip := rfl
@[simp] theorem np100 : fi100.np = 2 := rfl
@[simp] theorem nt100 : fi100.nt = 27 := rfl
@[simp] theorem fim100 (t : Nat) : fi100.mode t = mdT 100 t := rfl
theorem pl100 : plainB fi100 [] fi100.body = true := by kernel_rfl
@[simp] theorem kp100_0 (s : St) : s.keep fi100 0 = s := rfl
@[simp] theorem kp100_1 (s : St) : s.keep fi100 1 = s := rfl
@[simp] theorem kp100_2 (s : St) : s.keep fi100 2 = s := rfl
@[simp] theorem kp100_3 (s : St) : s.keep fi100 3 = s := rfl
@[simp] theorem kp100_4 (s : St) : s.keep fi100 4 = s := rfl
@[simp] theorem kp100_5 (s : St) : s.keep fi100 5 = s := rfl
@[simp] theorem kp100_6 (s : St) : s.keep fi100 6 = s := rfl
@[simp] theorem res100 (s : St) : resultsD (env G) fi100 s = some (s.sl.getD 4 .dead) := rfl

noncomputable def fi127 : FI := ⟨1, 75, [.tmp 2, .tmp 3], Tryd.f127.body.getD .skip, mdT 127, kpT 127⟩
theorem ef127' : (env G).fn 127 = some fi127 := by rw [ef127]; simp only [ofFunc, Tryd.f127, fi127]; rfl
theorem or127 : (env G).orc 127 = none := rfl
@[simp] theorem body127 : fi127.body = Tryd.f127.body.getD .skip := rfl
@[simp] theorem np127 : fi127.np = 1 := rfl
@[simp] theorem nt127 : fi127.nt = 75 := rfl
@[simp] theorem fim127 (t : Nat) : fi127.mode t = mdT 127 t := rfl
@[simp] theorem md127_65 : mdT 127 (65 : Tmp) = .pure := rfl
@[simp] theorem md127_69 : mdT 127 (69 : Tmp) = .pure := rfl
theorem pl127 : plainB fi127 [] fi127.body = true := by kernel_rfl
@[simp] theorem kp127_0 (s : St) : s.keep fi127 0 = s := rfl
@[simp] theorem kp127_1 (s : St) : s.keep fi127 1 = s := rfl
@[simp] theorem kp127_2 (s : St) : s.keep fi127 2 = s := rfl
@[simp] theorem kp127_3 (s : St) : s.keep fi127 3 = s := rfl
@[simp] theorem kp127_4 (s : St) : s.keep fi127 4 = s := rfl
@[simp] theorem kp127_5 (s : St) : s.keep fi127 5 = s := rfl
@[simp] theorem kp127_6 (s : St) : s.keep fi127 6 = s := rfl
@[simp] theorem kp127_7 (s : St) : s.keep fi127 7 = s := rfl
@[simp] theorem kp127_8 (s : St) : s.keep fi127 8 = s := rfl
@[simp] theorem kp127_9 (s : St) : s.keep fi127 9 = s := rfl
@[simp] theorem kp127_10 (s : St) : s.keep fi127 10 = s := rfl
@[simp] theorem kp127_11 (s : St) : s.keep fi127 11 = s := rfl
@[simp] theorem kp127_12 (s : St) : s.keep fi127 12 = s := rfl
@[simp] theorem kp127_13 (s : St) : s.keep fi127 13 = s := rfl
@[simp] theorem kp127_14 (s : St) : s.keep fi127 14 = { s with sl := keepL [4, 5, 48, 49, 50] 0 s.sl } := rfl
@[simp] theorem kp127_15 (s : St) : s.keep fi127 15 = s := rfl
@[simp] theorem kp127_16 (s : St) : s.keep fi127 16 = s := rfl
@[simp] theorem kp127_17 (s : St) : s.keep fi127 17 = s := rfl
@[simp] theorem kp127_18 (s : St) : s.keep fi127 18 = s := rfl
@[simp] theorem kp127_19 (s : St) : s.keep fi127 19 = s := rfl
@[simp] theorem kp127_20 (s : St) : s.keep fi127 20 = s := rfl
@[simp] theorem kp127_21 (s : St) : s.keep fi127 21 = s := rfl
@[simp] theorem kp127_22 (s : St) : s.keep fi127 22 = s := rfl
@[simp] theorem res127 (s : St) : resultsD (env G) fi127 s = some (.tup [s.sl.getD 2 .dead, s.sl.getD 3 .dead]) := rfl

end Go.Proofs.YtgilkaonmhlifaaDoor.Dn
