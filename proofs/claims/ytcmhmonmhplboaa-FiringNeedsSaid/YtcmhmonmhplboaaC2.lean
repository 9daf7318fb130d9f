/- The functions that the law reaches, as runs of the evaluator; each is sound; what each computes. No condition. -/
import Derived.Test.YtcmhmonmhplboaaE4
import Derived.Test.YtcmhmonmhplboaaC1
import Derived.KernelRfl
import Derived.Test.YtcmhmonmhplboaaProg
set_option linter.all false
set_option linter.unusedVariables false
set_option linter.unusedSimpArgs false
set_option linter.unnecessarySimpa false
set_option autoImplicit true
set_option relaxedAutoImplicit true
set_option maxRecDepth 100000
open Go Go.Ev
namespace Fs
theorem tok : TOk Go.Proofs.Try.prog T = true := by kernel_rfl
theorem follows : Go.Proofs.Try.prog.follows .mixedOrders = true := by kernel_rfl
theorem s13 (K : Nat) : Sound Go.Proofs.Try.prog K 13 (d13.spec f13) := sound_of tok follows Go.Proofs.Try.func13 (by kernel_rfl) (SoundC.nil rfl) (EqsOk.nil rfl) (by kernel_rfl)
theorem s15 (K : Nat) : Sound Go.Proofs.Try.prog K 15 (d15.spec f15) := sound_of tok follows Go.Proofs.Try.func15 (by kernel_rfl) (SoundC.nil rfl) (EqsOk.nil rfl) (by kernel_rfl)
theorem s25 (K : Nat) : Sound Go.Proofs.Try.prog K 25 (d25.spec f25) := sound_of tok follows Go.Proofs.Try.func25 (by kernel_rfl) (SoundC.nil rfl) (EqsOk.nil rfl) (by kernel_rfl)
theorem s19 (K : Nat) : Sound Go.Proofs.Try.prog K 19 (d19.spec f19) := sound_of tok follows Go.Proofs.Try.func19 (by kernel_rfl) (SoundC.cons (s25 K) (SoundC.nil rfl)) (EqsOk.nil rfl) (by kernel_rfl)
theorem s22 (K : Nat) : Sound Go.Proofs.Try.prog K 22 (d22.spec f22) := sound_of tok follows Go.Proofs.Try.func22 (by kernel_rfl) (SoundC.cons (s19 K) (SoundC.nil rfl)) (EqsOk.nil rfl) (by kernel_rfl)
theorem s39 (K : Nat) : Sound Go.Proofs.Try.prog K 39 (d39.spec f39) := sound_of tok follows Go.Proofs.Try.func39 (by kernel_rfl) (SoundC.nil rfl) (EqsOk.nil rfl) (by kernel_rfl)
theorem s92 (K : Nat) : Sound Go.Proofs.Try.prog K 92 (d92.spec f92) := sound_of tok follows Go.Proofs.Try.func92 (by kernel_rfl) (SoundC.nil rfl) (EqsOk.nil rfl) (by kernel_rfl)
theorem s93 (K : Nat) : Sound Go.Proofs.Try.prog K 93 (d93.spec f93) := sound_of tok follows Go.Proofs.Try.func93 (by kernel_rfl) (SoundC.nil rfl) (EqsOk.nil rfl) (by kernel_rfl)
theorem s45 (K : Nat) : Sound Go.Proofs.Try.prog K 45 (d45.spec f45) := sound_of tok follows Go.Proofs.Try.func45 (by kernel_rfl) (SoundC.cons (s92 K) (SoundC.cons (s93 K) (SoundC.nil rfl))) (EqsOk.of tok (by kernel_rfl)) (by kernel_rfl)
theorem s102 (K : Nat) : Sound Go.Proofs.Try.prog K 102 (d102.spec f102) := sound_of tok follows Go.Proofs.Try.func102 (by kernel_rfl) (SoundC.cons (s93 K) (SoundC.cons (s92 K) (SoundC.nil rfl))) (EqsOk.nil rfl) (by kernel_rfl)
theorem s106 (K : Nat) : Sound Go.Proofs.Try.prog K 106 (d106.spec f106) := sound_of tok follows Go.Proofs.Try.func106 (by kernel_rfl) (SoundC.cons (s93 K) (SoundC.nil rfl)) (EqsOk.nil rfl) (by kernel_rfl)
theorem s139 (K : Nat) : Sound Go.Proofs.Try.prog K 139 (d139.spec f139) := sound_of tok follows Go.Proofs.Try.func139 (by kernel_rfl) (SoundC.nil rfl) (EqsOk.nil rfl) (by kernel_rfl)
theorem s107 (K : Nat) : Sound Go.Proofs.Try.prog K 107 (d107.spec f107) := sound_of tok follows Go.Proofs.Try.func107 (by kernel_rfl) (SoundC.cons (s139 K) (SoundC.nil rfl)) (EqsOk.nil rfl) (by kernel_rfl)
theorem s140 (K : Nat) : Sound Go.Proofs.Try.prog K 140 (d140.spec f140) := sound_of tok follows Go.Proofs.Try.func140 (by kernel_rfl) (SoundC.nil rfl) (EqsOk.nil rfl) (by kernel_rfl)
theorem s108 (K : Nat) : Sound Go.Proofs.Try.prog K 108 (d108.spec f108) := sound_of tok follows Go.Proofs.Try.func108 (by kernel_rfl) (SoundC.cons (s107 K) (SoundC.cons (s140 K) (SoundC.nil rfl))) (EqsOk.nil rfl) (by kernel_rfl)
theorem s58 (K : Nat) : Sound Go.Proofs.Try.prog K 58 (d58.spec f58) := sound_of tok follows Go.Proofs.Try.func58 (by kernel_rfl) (SoundC.cons (s106 K) (SoundC.cons (s102 K) (SoundC.cons (s107 K) (SoundC.cons (s108 K) (SoundC.nil rfl))))) (EqsOk.nil rfl) (by kernel_rfl)
theorem s156 (K : Nat) : Sound Go.Proofs.Try.prog K 156 (d156.spec f156) := sound_of tok follows Go.Proofs.Try.func156 (by kernel_rfl) (SoundC.cons (s93 K) (SoundC.nil rfl)) (EqsOk.nil rfl) (by kernel_rfl)
theorem s133 (K : Nat) : Sound Go.Proofs.Try.prog K 133 (d133.spec f133) := sound_of tok follows Go.Proofs.Try.func133 (by kernel_rfl) (SoundC.cons (s156 K) (SoundC.cons (s107 K) (SoundC.nil rfl))) (EqsOk.nil rfl) (by kernel_rfl)
theorem s86 (K : Nat) : Sound Go.Proofs.Try.prog K 86 (d86.spec f86) := sound_of tok follows Go.Proofs.Try.func86 (by kernel_rfl) (SoundC.cons (s45 K) (SoundC.cons (s58 K) (SoundC.cons (s133 K) (SoundC.nil rfl)))) (EqsOk.nil rfl) (by kernel_rfl)
theorem s91 (K : Nat) : Sound Go.Proofs.Try.prog K 91 (d91.spec f91) := sound_of tok follows Go.Proofs.Try.func91 (by kernel_rfl) (SoundC.nil rfl) (EqsOk.nil rfl) (by kernel_rfl)
theorem s90 (K : Nat) : Sound Go.Proofs.Try.prog K 90 (d90.spec f90) := sound_of tok follows Go.Proofs.Try.func90 (by kernel_rfl) (SoundC.cons (s45 K) (SoundC.cons (s91 K) (SoundC.cons (s58 K) (SoundC.cons (s86 K) (SoundC.nil rfl))))) (EqsOk.nil rfl) (by kernel_rfl)
theorem s41 (K : Nat) : Sound Go.Proofs.Try.prog K 41 (d41.spec f41) := sound_of tok follows Go.Proofs.Try.func41 (by kernel_rfl) (SoundC.cons (s90 K) (SoundC.nil rfl)) (EqsOk.nil rfl) (by kernel_rfl)
theorem s42 (K : Nat) : Sound Go.Proofs.Try.prog K 42 (d42.spec f42) := sound_of tok follows Go.Proofs.Try.func42 (by kernel_rfl) (SoundC.cons (s90 K) (SoundC.nil rfl)) (EqsOk.nil rfl) (by kernel_rfl)
theorem s43 (K : Nat) : Sound Go.Proofs.Try.prog K 43 (d43.spec f43) := sound_of tok follows Go.Proofs.Try.func43 (by kernel_rfl) (SoundC.cons (s90 K) (SoundC.nil rfl)) (EqsOk.nil rfl) (by kernel_rfl)
theorem s78 (K : Nat) : Sound Go.Proofs.Try.prog K 78 (d78.spec f78) := sound_of tok follows Go.Proofs.Try.func78 (by kernel_rfl) (SoundC.cons (s45 K) (SoundC.nil rfl)) (EqsOk.nil rfl) (by kernel_rfl)
theorem s34 (K : Nat) : Sound Go.Proofs.Try.prog K 34 (d34.spec f34) := sound_of tok follows Go.Proofs.Try.func34 (by kernel_rfl) (SoundC.cons (s39 K) (SoundC.cons (s41 K) (SoundC.cons (s42 K) (SoundC.cons (s43 K) (SoundC.cons (s78 K) (SoundC.nil rfl)))))) (EqsOk.nil rfl) (by kernel_rfl)
theorem s35 (K : Nat) : Sound Go.Proofs.Try.prog K 35 (d35.spec f35) := sound_of tok follows Go.Proofs.Try.func35 (by kernel_rfl) (SoundC.cons (s19 K) (SoundC.nil rfl)) (EqsOk.nil rfl) (by kernel_rfl)
theorem s135 (K : Nat) : Sound Go.Proofs.Try.prog K 135 (d135.spec f135) := sound_of tok follows Go.Proofs.Try.func135 (by kernel_rfl) (SoundC.nil rfl) (EqsOk.nil rfl) (by kernel_rfl)
theorem s89 (K : Nat) : Sound Go.Proofs.Try.prog K 89 (d89.spec f89) := sound_of tok follows Go.Proofs.Try.func89 (by kernel_rfl) (SoundC.cons (s135 K) (SoundC.nil rfl)) (EqsOk.nil rfl) (by kernel_rfl)
theorem s40 (K : Nat) : Sound Go.Proofs.Try.prog K 40 (d40.spec f40) := sound_of tok follows Go.Proofs.Try.func40 (by kernel_rfl) (SoundC.cons (s89 K) (SoundC.nil rfl)) (EqsOk.nil rfl) (by kernel_rfl)
theorem s44 (K : Nat) : Sound Go.Proofs.Try.prog K 44 (d44.spec f44) := sound_of tok follows Go.Proofs.Try.func44 (by kernel_rfl) (SoundC.cons (s45 K) (SoundC.cons (s91 K) (SoundC.nil rfl))) (EqsOk.nil rfl) (by kernel_rfl)
theorem s9 (K : Nat) : Sound Go.Proofs.Try.prog K 9 (d9.spec f9) := sound_of tok follows Go.Proofs.Try.func9 (by kernel_rfl) (SoundC.cons (s13 K) (SoundC.cons (s34 K) (SoundC.cons (s15 K) (SoundC.cons (s39 K) (SoundC.cons (s40 K) (SoundC.cons (s19 K) (SoundC.cons (s35 K) (SoundC.cons (s22 K) (SoundC.cons (s41 K) (SoundC.cons (s45 K) (SoundC.cons (s42 K) (SoundC.cons (s43 K) (SoundC.cons (s44 K) (SoundC.nil rfl)))))))))))))) (EqsOk.nil rfl) (by kernel_rfl)
theorem s103 (K : Nat) : Sound Go.Proofs.Try.prog K 103 (d103.spec f103) := sound_of tok follows Go.Proofs.Try.func103 (by kernel_rfl) (SoundC.nil rfl) (EqsOk.nil rfl) (by kernel_rfl)
theorem s51 (K : Nat) : Sound Go.Proofs.Try.prog K 51 (d51.spec f51) := sound_of tok follows Go.Proofs.Try.func51 (by kernel_rfl) (SoundC.cons (s102 K) (SoundC.cons (s103 K) (SoundC.nil rfl))) (EqsOk.nil rfl) (by kernel_rfl)
theorem s138 (K : Nat) : Sound Go.Proofs.Try.prog K 138 (d138.spec f138) := sound_of tok follows Go.Proofs.Try.func138 (by kernel_rfl) (SoundC.cons (s103 K) (SoundC.nil rfl)) (EqsOk.nil rfl) (by kernel_rfl)
theorem s104 (K : Nat) : Sound Go.Proofs.Try.prog K 104 (d104.spec f104) := sound_of tok follows Go.Proofs.Try.func104 (by kernel_rfl) (SoundC.cons (s58 K) (SoundC.cons (s93 K) (SoundC.cons (s138 K) (SoundC.nil rfl)))) (EqsOk.nil rfl) (by kernel_rfl)
theorem s52 (K : Nat) : Sound Go.Proofs.Try.prog K 52 (d52.spec f52) := sound_of tok follows Go.Proofs.Try.func52 (by kernel_rfl) (SoundC.cons (s104 K) (SoundC.nil rfl)) (EqsOk.nil rfl) (by kernel_rfl)
theorem s53 (K : Nat) : Sound Go.Proofs.Try.prog K 53 (d53.spec f53) := sound_of tok follows Go.Proofs.Try.func53 (by kernel_rfl) (SoundC.cons (s104 K) (SoundC.nil rfl)) (EqsOk.nil rfl) (by kernel_rfl)
theorem s105 (K : Nat) : Sound Go.Proofs.Try.prog K 105 (d105.spec f105) := sound_of tok follows Go.Proofs.Try.func105 (by kernel_rfl) (SoundC.cons (s58 K) (SoundC.cons (s108 K) (SoundC.cons (s138 K) (SoundC.nil rfl)))) (EqsOk.nil rfl) (by kernel_rfl)
theorem s56 (K : Nat) : Sound Go.Proofs.Try.prog K 56 (d56.spec f56) := sound_of tok follows Go.Proofs.Try.func56 (by kernel_rfl) (SoundC.cons (s105 K) (SoundC.nil rfl)) (EqsOk.nil rfl) (by kernel_rfl)
theorem s176 (K : Nat) : Sound Go.Proofs.Try.prog K 176 (d176.spec f176) := sound_of tok follows Go.Proofs.Try.func176 (by kernel_rfl) (SoundC.nil rfl) (EqsOk.nil rfl) (by kernel_rfl)
theorem s163 (K : Nat) : Sound Go.Proofs.Try.prog K 163 (d163.spec f163) := sound_of tok follows Go.Proofs.Try.func163 (by kernel_rfl) (SoundC.cons (s176 K) (SoundC.nil rfl)) (EqsOk.nil rfl) (by kernel_rfl)
theorem s157 (K : Nat) : Sound Go.Proofs.Try.prog K 157 (d157.spec f157) := sound_of tok follows Go.Proofs.Try.func157 (by kernel_rfl) (SoundC.cons (s163 K) (SoundC.nil rfl)) (EqsOk.nil rfl) (by kernel_rfl)
theorem s167 (K : Nat) : Sound Go.Proofs.Try.prog K 167 (d167.spec f167) := sound_of tok follows Go.Proofs.Try.func167 (by kernel_rfl) (SoundC.nil rfl) (EqsOk.nil rfl) (by kernel_rfl)
theorem s142 (K : Nat) : Sound Go.Proofs.Try.prog K 142 (d142.spec f142) := sound_of tok follows Go.Proofs.Try.func142 (by kernel_rfl) (SoundC.cons (s167 K) (SoundC.nil rfl)) (EqsOk.nil rfl) (by kernel_rfl)
theorem s141 (K : Nat) : Sound Go.Proofs.Try.prog K 141 (d141.spec f141) := sound_of tok follows Go.Proofs.Try.func141 (by kernel_rfl) (SoundC.cons (s157 K) (SoundC.nil rfl)) (EqsOk.nil rfl) (by kernel_rfl)
theorem s109 (K : Nat) : Sound Go.Proofs.Try.prog K 109 (d109.spec f109) := sound_of tok follows Go.Proofs.Try.func109 (by kernel_rfl) (SoundC.cons (s142 K) (SoundC.cons (s141 K) (SoundC.nil rfl))) (EqsOk.nil rfl) (by kernel_rfl)
theorem s59 (K : Nat) : Sound Go.Proofs.Try.prog K 59 (d59.spec f59) := sound_of tok follows Go.Proofs.Try.func59 (by kernel_rfl) (SoundC.cons (s109 K) (SoundC.nil rfl)) (EqsOk.nil rfl) (by kernel_rfl)
theorem s46 (K : Nat) : Sound Go.Proofs.Try.prog K 46 (d46.spec f46) := sound_of tok follows Go.Proofs.Try.func46 (by kernel_rfl) (SoundC.cons (s51 K) (SoundC.cons (s52 K) (SoundC.cons (s53 K) (SoundC.cons (s56 K) (SoundC.cons (s59 K) (SoundC.cons (s58 K) (SoundC.nil rfl))))))) (EqsOk.nil rfl) (by kernel_rfl)
theorem s136 (K : Nat) : Sound Go.Proofs.Try.prog K 136 (d136.spec f136) := sound_of tok follows Go.Proofs.Try.func136 (by kernel_rfl) (SoundC.nil rfl) (EqsOk.nil rfl) (by kernel_rfl)
theorem s94 (K : Nat) : Sound Go.Proofs.Try.prog K 94 (d94.spec f94) := sound_of tok follows Go.Proofs.Try.func94 (by kernel_rfl) (SoundC.cons (s136 K) (SoundC.nil rfl)) (EqsOk.nil rfl) (by kernel_rfl)
theorem s47 (K : Nat) : Sound Go.Proofs.Try.prog K 47 (d47.spec f47) := sound_of tok follows Go.Proofs.Try.func47 (by kernel_rfl) (SoundC.cons (s94 K) (SoundC.nil rfl)) (EqsOk.nil rfl) (by kernel_rfl)
theorem s54 (K : Nat) : Sound Go.Proofs.Try.prog K 54 (d54.spec f54) := sound_of tok follows Go.Proofs.Try.func54 (by kernel_rfl) (SoundC.cons (s104 K) (SoundC.nil rfl)) (EqsOk.nil rfl) (by kernel_rfl)
theorem s55 (K : Nat) : Sound Go.Proofs.Try.prog K 55 (d55.spec f55) := sound_of tok follows Go.Proofs.Try.func55 (by kernel_rfl) (SoundC.cons (s104 K) (SoundC.nil rfl)) (EqsOk.nil rfl) (by kernel_rfl)
theorem s57 (K : Nat) : Sound Go.Proofs.Try.prog K 57 (d57.spec f57) := sound_of tok follows Go.Proofs.Try.func57 (by kernel_rfl) (SoundC.cons (s105 K) (SoundC.nil rfl)) (EqsOk.nil rfl) (by kernel_rfl)
theorem s50 (K : Nat) : Sound Go.Proofs.Try.prog K 50 (d50.spec f50) := sound_of tok follows Go.Proofs.Try.func50 (by kernel_rfl) (SoundC.nil rfl) (EqsOk.nil rfl) (by kernel_rfl)
theorem s137 (K : Nat) : Sound Go.Proofs.Try.prog K 137 (d137.spec f137) := sound_of tok follows Go.Proofs.Try.func137 (by kernel_rfl) (SoundC.cons (s50 K) (SoundC.cons (s94 K) (SoundC.nil rfl))) (EqsOk.nil rfl) (by kernel_rfl)
theorem s96 (K : Nat) : Sound Go.Proofs.Try.prog K 96 (d96.spec f96) := sound_of tok follows Go.Proofs.Try.func96 (by kernel_rfl) (SoundC.cons (s137 K) (SoundC.nil rfl)) (EqsOk.nil rfl) (by kernel_rfl)
theorem s97 (K : Nat) : Sound Go.Proofs.Try.prog K 97 (d97.spec f97) := sound_of tok follows Go.Proofs.Try.func97 (by kernel_rfl) (SoundC.cons (s137 K) (SoundC.nil rfl)) (EqsOk.nil rfl) (by kernel_rfl)
theorem s98 (K : Nat) : Sound Go.Proofs.Try.prog K 98 (d98.spec f98) := sound_of tok follows Go.Proofs.Try.func98 (by kernel_rfl) (SoundC.cons (s137 K) (SoundC.nil rfl)) (EqsOk.nil rfl) (by kernel_rfl)
theorem s99 (K : Nat) : Sound Go.Proofs.Try.prog K 99 (d99.spec f99) := sound_of tok follows Go.Proofs.Try.func99 (by kernel_rfl) (SoundC.cons (s137 K) (SoundC.nil rfl)) (EqsOk.nil rfl) (by kernel_rfl)
theorem s100 (K : Nat) : Sound Go.Proofs.Try.prog K 100 (d100.spec f100) := sound_of tok follows Go.Proofs.Try.func100 (by kernel_rfl) (SoundC.cons (s50 K) (SoundC.cons (s94 K) (SoundC.nil rfl))) (EqsOk.nil rfl) (by kernel_rfl)
theorem s101 (K : Nat) : Sound Go.Proofs.Try.prog K 101 (d101.spec f101) := sound_of tok follows Go.Proofs.Try.func101 (by kernel_rfl) (SoundC.cons (s50 K) (SoundC.cons (s94 K) (SoundC.nil rfl))) (EqsOk.nil rfl) (by kernel_rfl)
theorem s49 (K : Nat) : Sound Go.Proofs.Try.prog K 49 (d49.spec f49) := sound_of tok follows Go.Proofs.Try.func49 (by kernel_rfl) (SoundC.cons (s52 K) (SoundC.cons (s96 K) (SoundC.cons (s53 K) (SoundC.cons (s97 K) (SoundC.cons (s54 K) (SoundC.cons (s98 K) (SoundC.cons (s55 K) (SoundC.cons (s99 K) (SoundC.cons (s56 K) (SoundC.cons (s100 K) (SoundC.cons (s57 K) (SoundC.cons (s101 K) (SoundC.nil rfl))))))))))))) (EqsOk.nil rfl) (by kernel_rfl)
theorem s27 (K : Nat) : Sound Go.Proofs.Try.prog K 27 (d27.spec f27) := sound_of tok follows Go.Proofs.Try.func27 (by kernel_rfl) (SoundC.nil rfl) (EqsOk.nil rfl) (by kernel_rfl)
theorem s60 (K : Nat) : Sound Go.Proofs.Try.prog K 60 (d60.spec f60) := sound_of tok follows Go.Proofs.Try.func60 (by kernel_rfl) (SoundC.cons (s27 K) (SoundC.nil rfl)) (EqsOk.nil rfl) (by kernel_rfl)
theorem s95 (K : Nat) : Sound Go.Proofs.Try.prog K 95 (d95.spec f95) := sound_of tok follows Go.Proofs.Try.func95 (by kernel_rfl) (SoundC.nil rfl) (EqsOk.nil rfl) (by kernel_rfl)
theorem s48 (K : Nat) : Sound Go.Proofs.Try.prog K 48 (d48.spec f48) := sound_of tok follows Go.Proofs.Try.func48 (by kernel_rfl) (SoundC.cons (s49 K) (SoundC.cons (s60 K) (SoundC.cons (s59 K) (SoundC.cons (s95 K) (SoundC.cons (s58 K) (SoundC.cons (s94 K) (SoundC.nil rfl))))))) (EqsOk.nil rfl) (by kernel_rfl)
theorem s10 (K : Nat) : Sound Go.Proofs.Try.prog K 10 (d10.spec f10) := sound_of tok follows Go.Proofs.Try.func10 (by kernel_rfl) (SoundC.cons (s13 K) (SoundC.cons (s46 K) (SoundC.cons (s15 K) (SoundC.cons (s19 K) (SoundC.cons (s47 K) (SoundC.cons (s48 K) (SoundC.cons (s49 K) (SoundC.cons (s50 K) (SoundC.cons (s35 K) (SoundC.nil rfl)))))))))) (EqsOk.nil rfl) (by kernel_rfl)
theorem s11 (K : Nat) : Sound Go.Proofs.Try.prog K 11 (d11.spec f11) := sound_of tok follows Go.Proofs.Try.func11 (by kernel_rfl) (SoundC.cons (s13 K) (SoundC.cons (s46 K) (SoundC.cons (s15 K) (SoundC.cons (s19 K) (SoundC.cons (s51 K) (SoundC.cons (s52 K) (SoundC.cons (s58 K) (SoundC.cons (s59 K) (SoundC.cons (s60 K) (SoundC.cons (s53 K) (SoundC.cons (s54 K) (SoundC.cons (s55 K) (SoundC.cons (s56 K) (SoundC.cons (s57 K) (SoundC.nil rfl))))))))))))))) (EqsOk.nil rfl) (by kernel_rfl)
theorem s12 (K : Nat) : Sound Go.Proofs.Try.prog K 12 (d12.spec f12) := sound_of tok follows Go.Proofs.Try.func12 (by kernel_rfl) (SoundC.cons (s13 K) (SoundC.cons (s46 K) (SoundC.cons (s15 K) (SoundC.cons (s19 K) (SoundC.cons (s47 K) (SoundC.cons (s35 K) (SoundC.cons (s49 K) (SoundC.cons (s52 K) (SoundC.cons (s55 K) (SoundC.cons (s60 K) (SoundC.cons (s53 K) (SoundC.cons (s54 K) (SoundC.cons (s56 K) (SoundC.cons (s57 K) (SoundC.nil rfl))))))))))))))) (EqsOk.nil rfl) (by kernel_rfl)
end Fs
