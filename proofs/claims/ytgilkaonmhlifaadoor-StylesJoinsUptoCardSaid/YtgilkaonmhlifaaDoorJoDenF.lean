/- Each function's record: written by boil.py. -/
import Derived.Test.YtgilkaonmhlifaaDoorJoDenT
namespace Go.Proofs.YtgilkaonmhlifaaDoor.Dn
open Go.Den
set_option maxRecDepth 100000
variable {G : Nat → Option (List D)}

noncomputable def fi4 : FI := ⟨3, 67, [.tmp 6], Tryd.f4.body.getD .skip, mdT 4, kpT 4⟩
theorem ef4' : (env G).fn 4 = some fi4 := by rw [ef4]; simp only [ofFunc, Tryd.f4, fi4]; rfl
theorem or4 : (env G).orc 4 = none := rfl
@[simp] theorem body4 : fi4.body = Tryd.f4.body.getD .skip := rfl
@[simp] theorem np4 : fi4.np = 3 := rfl
@[simp] theorem nt4 : fi4.nt = 67 := rfl
@[simp] theorem fim4 (t : Nat) : fi4.mode t = mdT 4 t := rfl
@[simp] theorem md4_18 : mdT 4 (18 : Tmp) = .pure := rfl
@[simp] theorem md4_21 : mdT 4 (21 : Tmp) = .pure := rfl
@[simp] theorem md4_44 : mdT 4 (44 : Tmp) = .pure := rfl
@[simp] theorem md4_48 : mdT 4 (48 : Tmp) = .pure := rfl
@[simp] theorem md4_49 : mdT 4 (49 : Tmp) = .pure := rfl
@[simp] theorem md4_50 : mdT 4 (50 : Tmp) = .pure := rfl
@[simp] theorem md4_54 : mdT 4 (54 : Tmp) = .pure := rfl
@[simp] theorem md4_56 : mdT 4 (56 : Tmp) = .pure := rfl
@[simp] theorem md4_60 : mdT 4 (60 : Tmp) = .pure := rfl
@[simp] theorem md4_62 : mdT 4 (62 : Tmp) = .pure := rfl
@[simp] theorem md4_65 : mdT 4 (65 : Tmp) = .pure := rfl
theorem pl4 : plainB fi4 [] fi4.body = true := by kernel_rfl
@[simp] theorem kp4_0 (s : St) : s.keep fi4 0 = s := rfl
@[simp] theorem kp4_1 (s : St) : s.keep fi4 1 = s := rfl
@[simp] theorem kp4_2 (s : St) : s.keep fi4 2 = s := rfl
@[simp] theorem kp4_3 (s : St) : s.keep fi4 3 = s := rfl
@[simp] theorem kp4_4 (s : St) : s.keep fi4 4 = s := rfl
@[simp] theorem kp4_5 (s : St) : s.keep fi4 5 = s := rfl
@[simp] theorem kp4_6 (s : St) : s.keep fi4 6 = s := rfl
@[simp] theorem kp4_7 (s : St) : s.keep fi4 7 = s := rfl
@[simp] theorem res4 (s : St) : resultsD (env G) fi4 s = some (s.sl.getD 6 .dead) := rfl

noncomputable def fi16 : FI := ⟨2, 26, [.tmp 4], Tryd.f16.body.getD .skip, mdT 16, kpT 16⟩
theorem ef16' : (env G).fn 16 = some fi16 := by rw [ef16]; simp only [ofFunc, Tryd.f16, fi16]; rfl
theorem or16 : (env G).orc 16 = none := rfl
@[simp] theorem body16 : fi16.body = Tryd.f16.body.getD .skip := rfl
@[simp] theorem np16 : fi16.np = 2 := rfl
@[simp] theorem nt16 : fi16.nt = 26 := rfl
@[simp] theorem fim16 (t : Nat) : fi16.mode t = mdT 16 t := rfl
theorem pl16 : plainB fi16 [] fi16.body = true := by kernel_rfl
@[simp] theorem kp16_0 (s : St) : s.keep fi16 0 = s := rfl
@[simp] theorem kp16_1 (s : St) : s.keep fi16 1 = s := rfl
@[simp] theorem kp16_2 (s : St) : s.keep fi16 2 = s := rfl
@[simp] theorem kp16_3 (s : St) : s.keep fi16 3 = s := rfl
@[simp] theorem kp16_4 (s : St) : s.keep fi16 4 = { s with sl := keepL [0, 1, 5] 0 s.sl } := rfl
@[simp] theorem kp16_5 (s : St) : s.keep fi16 5 = s := rfl
@[simp] theorem kp16_6 (s : St) : s.keep fi16 6 = s := rfl
@[simp] theorem kp16_7 (s : St) : s.keep fi16 7 = s := rfl
@[simp] theorem kp16_8 (s : St) : s.keep fi16 8 = s := rfl
@[simp] theorem res16 (s : St) : resultsD (env G) fi16 s = some (s.sl.getD 4 .dead) := rfl

noncomputable def fi20 : FI := ⟨2, 23, [.tmp 4], Tryd.f20.body.getD .skip, mdT 20, kpT 20⟩
theorem ef20' : (env G).fn 20 = some fi20 := by rw [ef20]; simp only [ofFunc, Tryd.f20, fi20]; rfl
theorem or20 : (env G).orc 20 = none := rfl
@[simp] theorem body20 : fi20.body = Tryd.f20.body.getD .skip := rfl
@[simp] theorem np20 : fi20.np = 2 := rfl
@[simp] theorem nt20 : fi20.nt = 23 := rfl
@[simp] theorem fim20 (t : Nat) : fi20.mode t = mdT 20 t := rfl
@[simp] theorem md20_10 : mdT 20 (10 : Tmp) = .pure := rfl
@[simp] theorem md20_16 : mdT 20 (16 : Tmp) = .pure := rfl
@[simp] theorem md20_22 : mdT 20 (22 : Tmp) = .pure := rfl
theorem pl20 : plainB fi20 [] fi20.body = true := by kernel_rfl
@[simp] theorem kp20_0 (s : St) : s.keep fi20 0 = s := rfl
@[simp] theorem kp20_1 (s : St) : s.keep fi20 1 = s := rfl
@[simp] theorem kp20_2 (s : St) : s.keep fi20 2 = s := rfl
@[simp] theorem kp20_3 (s : St) : s.keep fi20 3 = s := rfl
@[simp] theorem kp20_4 (s : St) : s.keep fi20 4 = s := rfl
@[simp] theorem kp20_5 (s : St) : s.keep fi20 5 = s := rfl
@[simp] theorem res20 (s : St) : resultsD (env G) fi20 s = some (s.sl.getD 4 .dead) := rfl

noncomputable def fi58 : FI := ⟨1, 8, [.tmp 2], Tryd.f58.body.getD .skip, mdT 58, kpT 58⟩
theorem ef58' : (env G).fn 58 = some fi58 := by rw [ef58]; simp only [ofFunc, Tryd.f58, fi58]; rfl
@[simp] theorem body58 : fi58.body = Tryd.f58.body.getD .skip := rfl
@[simp] theorem np58 : fi58.np = 1 := rfl
@[simp] theorem nt58 : fi58.nt = 8 := rfl
@[simp] theorem fim58 (t : Nat) : fi58.mode t = mdT 58 t := rfl
theorem pl58 : plainB fi58 [] fi58.body = true := by kernel_rfl
@[simp] theorem kp58_0 (s : St) : s.keep fi58 0 = s := rfl
@[simp] theorem kp58_1 (s : St) : s.keep fi58 1 = s := rfl
@[simp] theorem kp58_2 (s : St) : s.keep fi58 2 = s := rfl
@[simp] theorem kp58_3 (s : St) : s.keep fi58 3 = s := rfl
@[simp] theorem res58 (s : St) : resultsD (env G) fi58 s = some (s.sl.getD 2 .dead) := rfl

noncomputable def fi59 : FI := ⟨1, 36, [.tmp 2], Tryd.f59.body.getD .skip, mdT 59, kpT 59⟩
theorem ef59' : (env G).fn 59 = some fi59 := by rw [ef59]; simp only [ofFunc, Tryd.f59, fi59]; rfl
theorem or59 : (env G).orc 59 = none := rfl
@[simp] theorem body59 : fi59.body = Tryd.f59.body.getD .skip := rfl
@[simp] theorem np59 : fi59.np = 1 := rfl
@[simp] theorem nt59 : fi59.nt = 36 := rfl
@[simp] theorem fim59 (t : Nat) : fi59.mode t = mdT 59 t := rfl
@[simp] theorem md59_24 : mdT 59 (24 : Tmp) = .raw := rfl
theorem pl59 : plainB fi59 [] fi59.body = true := by kernel_rfl
@[simp] theorem kp59_0 (s : St) : s.keep fi59 0 = s := rfl
@[simp] theorem kp59_1 (s : St) : s.keep fi59 1 = s := rfl
@[simp] theorem kp59_2 (s : St) : s.keep fi59 2 = s := rfl
@[simp] theorem kp59_3 (s : St) : s.keep fi59 3 = { s with sl := keepL [0, 3, 9, 10, 11] 0 s.sl } := rfl
@[simp] theorem kp59_4 (s : St) : s.keep fi59 4 = s := rfl
@[simp] theorem kp59_5 (s : St) : s.keep fi59 5 = s := rfl
@[simp] theorem kp59_6 (s : St) : s.keep fi59 6 = s := rfl
@[simp] theorem kp59_7 (s : St) : s.keep fi59 7 = s := rfl
@[simp] theorem kp59_8 (s : St) : s.keep fi59 8 = s := rfl
@[simp] theorem kp59_9 (s : St) : s.keep fi59 9 = s := rfl
@[simp] theorem kp59_10 (s : St) : s.keep fi59 10 = s := rfl
@[simp] theorem kp59_11 (s : St) : s.keep fi59 11 = { s with sl := keepL [6, 25, 26, 27] 0 s.sl } := rfl
@[simp] theorem kp59_12 (s : St) : s.keep fi59 12 = s := rfl
@[simp] theorem kp59_13 (s : St) : s.keep fi59 13 = s := rfl
@[simp] theorem kp59_14 (s : St) : s.keep fi59 14 = s := rfl
@[simp] theorem kp59_15 (s : St) : s.keep fi59 15 = s := rfl
@[simp] theorem res59 (s : St) : resultsD (env G) fi59 s = some (s.sl.getD 2 .dead) := rfl

noncomputable def fi100 : FI := ⟨2, 27, [.tmp 4], Tryd.f100.body.getD .skip, mdT 100, kpT 100⟩
theorem ef100' : (env G).fn 100 = some fi100 := by rw [ef100]; simp only [ofFunc, Tryd.f100, fi100]; rfl
theorem or100 : (env G).orc 100 = none := rfl
@[simp] theorem body100 : fi100.body = Tryd.f100.body.getD .skip := rfl
@[simp] theorem np100 : fi100.np = 2 := rfl
@[simp] theorem nt100 : fi100.nt = 27 := rfl
@[simp] theorem fim100 (t : Nat) : fi100.mode t = mdT 100 t := rfl
theorem pl100 : plainB fi100 [] fi100.body = true := by kernel_rfl
@[simp] theorem kp100_0 (s : St) : s.keep fi100 0 = s := rfl
@[simp] theorem kp100_1 (s : St) : s.keep fi100 1 = s := rfl
@[simp] theorem kp100_2 (s : St) : s.keep fi100 2 = s := rfl
@[simp] theorem kp100_3 (s : St) : s.keep fi100 3 = s := rfl
@[simp] theorem kp100_4 (s : St) : s.keep fi100 4 = s := rfl
@[simp] theorem kp100_5 (s : St) : s.keep fi100 5 = s := rfl
@[simp] theorem kp100_6 (s : St) : s.keep fi100 6 = s := rfl
@[simp] theorem res100 (s : St) : resultsD (env G) fi100 s = some (s.sl.getD 4 .dead) := rfl

end Go.Proofs.YtgilkaonmhlifaaDoor.Dn
