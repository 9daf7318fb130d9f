/- The functions that the law reaches, as runs of the evaluator; each is sound; what each computes. No condition. -/
import Derived.Test.YtcmhmonmhplboaaE1
import Derived.KernelRfl
import Derived.Test.YtcmhmonmhplboaaProg
set_option linter.all false
set_option linter.unusedVariables false
set_option linter.unusedSimpArgs false
set_option linter.unnecessarySimpa false
set_option autoImplicit true
set_option relaxedAutoImplicit true
set_option maxRecDepth 100000
open Go Go.Ev
namespace Fs
abbrev I : Ty := .int .i64
abbrev t45 : Ty := .agg (.cons I (.cons (.sl 3 I) .nil))
abbrev t42 : Ty := .agg (.cons (.sl 3 I) (.cons (.sl 46 t45) .nil))
abbrev t33 : Ty := .agg (.cons (.sl 43 t42) .nil)
abbrev t57 : Ty := .agg (.cons (.sl 3 I) (.cons I (.cons I .nil)))
abbrev t59 : Ty := .agg (.cons I (.cons I (.cons I (.cons I .nil))))
abbrev t63 : Ty := .agg (.cons (.sl 3 I) (.cons (.sl 3 I) (.cons Ty.bool .nil)))
abbrev t88 : Ty := .agg (.cons (.sl 3 I) (.cons I .nil))
abbrev t110 : Ty := .agg (.cons t57 (.cons t59 (.cons t63 (.cons t33 (.cons I (.cons I .nil))))))
def T : List (TypeId × Ty) := [(3, I), (4, Ty.bool), (5, (.int .u8)), (22, (.sl 3 I)), (32, (.sl 43 t42)), (34, t33), (40, (.fn (.cons I .nil) (.cons Ty.bool .nil))), (41, (.sl 46 t45)), (43, t42), (46, t45), (58, t57), (60, t59), (64, t63), (71, I), (89, t88), (111, t110), (145, (.int .u64)), (165, (.int .u64))]
-- minecontrol/minecontrolmade.Light
def d13 : FDef where
  ms := [.fz]
  ps := (.cons (.sl 3 I) .nil)
  rs := (.cons Ty.bool .nil)
  nres := 1
  rsh := [.fz]
  rp := false
  L := []
  mv := []
  eqs := []
  strs := []
noncomputable def f13 (K : Nat) (x : DL d13.ps) : Option (DL d13.rs) := Ev.run T [] Go.Proofs.Try.f13 d13 K x
-- minecontrol/minecontrolmade.Roll
def d15 : FDef where
  ms := [.fz]
  ps := (.cons (.sl 3 I) .nil)
  rs := (.cons t88 .nil)
  nres := 1
  rsh := [(.cons .fz (.cons .fz .nil))]
  rp := true
  L := []
  mv := []
  eqs := []
  strs := []
noncomputable def f15 (K : Nat) (x : DL d15.ps) : Option (DL d15.rs) := Ev.run T [] Go.Proofs.Try.f15 d15 K x
-- minecontrol/minecontrolmade.Mod
def d25 : FDef where
  ms := [.fz, .fz]
  ps := (.cons I (.cons I .nil))
  rs := (.cons I .nil)
  nres := 1
  rsh := [.fz]
  rp := false
  L := []
  mv := []
  eqs := []
  strs := []
noncomputable def f25 (K : Nat) (x : DL d25.ps) : Option (DL d25.rs) := Ev.run T [] Go.Proofs.Try.f25 d25 K x
-- (*minecontrol/minecontrolmade.Dice).Next
def d19 : FDef where
  ms := [(.mut (.cons .fz (.cons .fz .nil))), .fz]
  ps := (.cons t88 (.cons I .nil))
  rs := (.cons I (.cons t88 .nil))
  nres := 1
  rsh := [.fz, (.cons .fz (.cons .fz .nil))]
  rp := false
  L := []
  mv := []
  eqs := []
  strs := []
noncomputable def f19 (K : Nat) (x : DL d19.ps) : Option (DL d19.rs) := Ev.run T [(25, d25.spec f25)] Go.Proofs.Try.f19 d19 K x
-- (*minecontrol/minecontrolmade.Dice).One
def d22 : FDef where
  ms := [(.mut (.cons .fz (.cons .fz .nil))), .fz]
  ps := (.cons t88 (.cons I .nil))
  rs := (.cons Ty.bool (.cons t88 .nil))
  nres := 1
  rsh := [.fz, (.cons .fz (.cons .fz .nil))]
  rp := false
  L := []
  mv := []
  eqs := []
  strs := []
noncomputable def f22 (K : Nat) (x : DL d22.ps) : Option (DL d22.rs) := Ev.run T [(19, d19.spec f19)] Go.Proofs.Try.f22 d22 K x
-- minecontrol/minecontrollaw34.ready
def d39 : FDef where
  ms := []
  ps := .nil
  rs := (.cons t57 (.cons t63 (.cons t33 .nil)))
  nres := 3
  rsh := [(.cons (.own .fz) (.cons .fz (.cons .fz .nil))), (.cons (.own .fz) (.cons (.own .fz) (.cons .fz .nil))), (.cons (.own (.cons (.own .fz) (.cons (.own (.cons .fz (.cons (.own .fz) .nil))) .nil))) .nil)]
  rp := false
  L := []
  mv := [12]
  eqs := []
  strs := []
noncomputable def f39 (K : Nat) (x : DL d39.ps) : Option (DL d39.rs) := Ev.run T [] Go.Proofs.Try.f39 d39 K x
-- minecontrol/lists.Rising
def d92 : FDef where
  ms := [.fz, .fz, .fz]
  ps := (.cons (.sl 3 I) (.cons I (.cons I .nil)))
  rs := (.cons Ty.bool .nil)
  nres := 1
  rsh := [.fz]
  rp := false
  L := [(2, [.val 0 (.sl 3 I) .fz, .val 1 I .fz, .val 2 I .fz, .val 9 (.sl 3 I) .fz, .val 10 I .fz, .val 11 I .fz])]
  mv := []
  eqs := []
  strs := []
noncomputable def f92 (K : Nat) (x : DL d92.ps) : Option (DL d92.rs) := Ev.run T [] Go.Proofs.Try.f92 d92 K x
noncomputable def l92_2 (K k1 : Nat) (x : DL (kTys (d92.keeps 2))) : Option (DL d92.rs) := Ev.loop T [] Go.Proofs.Try.f92 d92 K 2 [k1] (dfltL _) x
-- minecontrol/lists.In
def d93 : FDef where
  ms := [.fz, .fz, .fz]
  ps := (.cons I (.cons I (.cons I .nil)))
  rs := (.cons Ty.bool .nil)
  nres := 1
  rsh := [.fz]
  rp := false
  L := []
  mv := []
  eqs := []
  strs := []
noncomputable def f93 (K : Nat) (x : DL d93.ps) : Option (DL d93.rs) := Ev.run T [] Go.Proofs.Try.f93 d93 K x
-- minecontrol/firing.Valid
def d45 : FDef where
  ms := [.fz, .fz]
  ps := (.cons t57 (.cons t59 .nil))
  rs := (.cons Ty.bool .nil)
  nres := 1
  rsh := [.fz]
  rp := false
  L := []
  mv := []
  eqs := [60]
  strs := []
noncomputable def f45 (K : Nat) (x : DL d45.ps) : Option (DL d45.rs) := Ev.run T [(92, d92.spec f92), (93, d93.spec f93)] Go.Proofs.Try.f45 d45 K x
-- minecontrol/keys.roads
def d102 : FDef where
  ms := [.fz]
  ps := (.cons (.sl 3 I) .nil)
  rs := (.cons Ty.bool .nil)
  nres := 1
  rsh := [.fz]
  rp := false
  L := []
  mv := []
  eqs := []
  strs := []
noncomputable def f102 (K : Nat) (x : DL d102.ps) : Option (DL d102.rs) := Ev.run T [(93, d93.spec f93), (92, d92.spec f92)] Go.Proofs.Try.f102 d102 K x
-- minecontrol/keys.Valid$1
def d106 : FDef where
  ms := [.fz]
  ps := (.cons I .nil)
  rs := (.cons Ty.bool .nil)
  nres := 1
  rsh := [.fz]
  rp := false
  L := []
  mv := []
  eqs := []
  strs := []
noncomputable def f106 (K : Nat) (x : DL d106.ps) : Option (DL d106.rs) := Ev.run T [(93, d93.spec f93)] Go.Proofs.Try.f106 d106 K x
-- slices.IndexFunc[[]int,int]
def d139 : FDef where
  ms := [.fz, .fz]
  ps := (.cons (.sl 3 I) (.cons (.fn (.cons I .nil) (.cons Ty.bool .nil)) .nil))
  rs := (.cons I .nil)
  nres := 1
  rsh := [.fz]
  rp := false
  L := [(2, [.val 0 (.sl 3 I) .fz, .val 1 (.fn (.cons I .nil) (.cons Ty.bool .nil)) .fz, .val 7 I .fz, .val 8 I .fz])]
  mv := []
  eqs := []
  strs := []
noncomputable def f139 (K : Nat) (x : DL d139.ps) : Option (DL d139.rs) := Ev.run T [] Go.Proofs.Try.f139 d139 K x
noncomputable def l139_2 (K k1 : Nat) (x : DL (kTys (d139.keeps 2))) : Option (DL d139.rs) := Ev.loop T [] Go.Proofs.Try.f139 d139 K 2 [k1] (dfltL _) x
-- slices.ContainsFunc[[]int,int]
def d107 : FDef where
  ms := [.fz, .fz]
  ps := (.cons (.sl 3 I) (.cons (.fn (.cons I .nil) (.cons Ty.bool .nil)) .nil))
  rs := (.cons Ty.bool .nil)
  nres := 1
  rsh := [.fz]
  rp := false
  L := []
  mv := []
  eqs := []
  strs := []
noncomputable def f107 (K : Nat) (x : DL d107.ps) : Option (DL d107.rs) := Ev.run T [(139, d139.spec f139)] Go.Proofs.Try.f107 d107 K x
-- minecontrol/keys.boxed$1
def d140 : FDef where
  ms := [.fz]
  ps := (.cons I .nil)
  rs := (.cons Ty.bool .nil)
  nres := 1
  rsh := [.fz]
  rp := false
  L := []
  mv := []
  eqs := []
  strs := []
noncomputable def f140 (K : Nat) (x : DL d140.ps) : Option (DL d140.rs) := Ev.run T [] Go.Proofs.Try.f140 d140 K x
-- minecontrol/keys.boxed
def d108 : FDef where
  ms := [.fz]
  ps := (.cons t63 .nil)
  rs := (.cons Ty.bool .nil)
  nres := 1
  rsh := [.fz]
  rp := false
  L := []
  mv := []
  eqs := []
  strs := []
noncomputable def f108 (K : Nat) (x : DL d108.ps) : Option (DL d108.rs) := Ev.run T [(107, d107.spec f107), (140, d140.spec f140)] Go.Proofs.Try.f108 d108 K x
-- minecontrol/keys.Valid
def d58 : FDef where
  ms := [.fz]
  ps := (.cons t63 .nil)
  rs := (.cons Ty.bool .nil)
  nres := 1
  rsh := [.fz]
  rp := false
  L := []
  mv := []
  eqs := []
  strs := []
noncomputable def f58 (K : Nat) (x : DL d58.ps) : Option (DL d58.rs) := Ev.run T [(106, d106.spec f106), (102, d102.spec f102), (107, d107.spec f107), (108, d108.spec f108)] Go.Proofs.Try.f58 d58 K x
-- minecontrol/area.Clear$1
def d156 : FDef where
  ms := [.fz, .efz]
  ps := (.cons I (.cons t45 .nil))
  rs := (.cons Ty.bool .nil)
  nres := 1
  rsh := [.fz]
  rp := false
  L := []
  mv := []
  eqs := []
  strs := []
noncomputable def f156 (K : Nat) (x : DL d156.ps) : Option (DL d156.rs) := Ev.run T [(93, d93.spec f93)] Go.Proofs.Try.f156 d156 K x
-- minecontrol/area.Clear
def d133 : FDef where
  ms := [.fz, .fz]
  ps := (.cons t33 (.cons (.sl 3 I) .nil))
  rs := (.cons Ty.bool .nil)
  nres := 1
  rsh := [.fz]
  rp := false
  L := [(2, [.val 1 (.sl 3 I) .fz, .val 10 (.sl 43 t42) .fz, .val 11 I .fz, .val 12 I .fz]), (5, [.val 1 (.sl 3 I) .fz, .val 10 (.sl 43 t42) .fz, .val 11 I .fz, .val 12 I .fz, .val 17 (.sl 46 t45) .fz, .val 18 I .fz, .val 19 I .fz])]
  mv := []
  eqs := []
  strs := []
noncomputable def f133 (K : Nat) (x : DL d133.ps) : Option (DL d133.rs) := Ev.run T [(156, d156.spec f156), (107, d107.spec f107)] Go.Proofs.Try.f133 d133 K x
noncomputable def l133_2 (K k1 : Nat) (x : DL (kTys (d133.keeps 2))) : Option (DL d133.rs) := Ev.loop T [(156, d156.spec f156), (107, d107.spec f107)] Go.Proofs.Try.f133 d133 K 2 [k1] (dfltL _) x
noncomputable def l133_5 (K k1 k2 : Nat) (x : DL (kTys (d133.keeps 5))) : Option (DL d133.rs) := Ev.loop T [(156, d156.spec f156), (107, d107.spec f107)] Go.Proofs.Try.f133 d133 K 5 [k1, k2] (dfltL _) x
-- minecontrol/firing.Safe
def d86 : FDef where
  ms := [.fz, .fz, .fz]
  ps := (.cons t57 (.cons t63 (.cons t33 .nil)))
  rs := (.cons Ty.bool .nil)
  nres := 1
  rsh := [.fz]
  rp := false
  L := []
  mv := []
  eqs := []
  strs := []
noncomputable def f86 (K : Nat) (x : DL d86.ps) : Option (DL d86.rs) := Ev.run T [(45, d45.spec f45), (58, d58.spec f58), (133, d133.spec f133)] Go.Proofs.Try.f86 d86 K x
-- minecontrol/firing.timely
def d91 : FDef where
  ms := [.fz, .fz]
  ps := (.cons t59 (.cons I .nil))
  rs := (.cons Ty.bool .nil)
  nres := 1
  rsh := [.fz]
  rp := false
  L := []
  mv := []
  eqs := []
  strs := []
noncomputable def f91 (K : Nat) (x : DL d91.ps) : Option (DL d91.rs) := Ev.run T [] Go.Proofs.Try.f91 d91 K x
-- (minecontrol/firing.request).check
def d90 : FDef where
  ms := [.fz, .fz]
  ps := (.cons t110 (.cons Ty.bool .nil))
  rs := (.cons I .nil)
  nres := 1
  rsh := [.fz]
  rp := false
  L := []
  mv := []
  eqs := []
  strs := []
noncomputable def f90 (K : Nat) (x : DL d90.ps) : Option (DL d90.rs) := Ev.run T [(45, d45.spec f45), (91, d91.spec f91), (58, d58.spec f58), (86, d86.spec f86)] Go.Proofs.Try.f90 d90 K x
-- minecontrol/firing.Arm
def d41 : FDef where
  ms := [.fz, .fz, .fz, .fz, .fz, .fz]
  ps := (.cons t57 (.cons t59 (.cons t63 (.cons t33 (.cons I (.cons I .nil))))))
  rs := (.cons t59 (.cons I .nil))
  nres := 2
  rsh := [.fz, .fz]
  rp := false
  L := []
  mv := []
  eqs := []
  strs := []
noncomputable def f41 (K : Nat) (x : DL d41.ps) : Option (DL d41.rs) := Ev.run T [(90, d90.spec f90)] Go.Proofs.Try.f41 d41 K x
-- minecontrol/firing.Agree
def d42 : FDef where
  ms := [.fz, .fz, .fz, .fz, .fz, .fz]
  ps := (.cons t57 (.cons t59 (.cons t63 (.cons t33 (.cons I (.cons I .nil))))))
  rs := (.cons t59 (.cons I .nil))
  nres := 2
  rsh := [.fz, .fz]
  rp := false
  L := []
  mv := []
  eqs := []
  strs := []
noncomputable def f42 (K : Nat) (x : DL d42.ps) : Option (DL d42.rs) := Ev.run T [(90, d90.spec f90)] Go.Proofs.Try.f42 d42 K x
-- minecontrol/firing.Fire
def d43 : FDef where
  ms := [.fz, .fz, .fz, .fz, .fz, .fz]
  ps := (.cons t57 (.cons t59 (.cons t63 (.cons t33 (.cons I (.cons Ty.bool .nil))))))
  rs := (.cons t59 (.cons I .nil))
  nres := 2
  rsh := [.fz, .fz]
  rp := false
  L := []
  mv := []
  eqs := []
  strs := []
noncomputable def f43 (K : Nat) (x : DL d43.ps) : Option (DL d43.rs) := Ev.run T [(90, d90.spec f90)] Go.Proofs.Try.f43 d43 K x
-- minecontrol/firing.Due
def d78 : FDef where
  ms := [.fz, .fz, .fz]
  ps := (.cons t57 (.cons t59 (.cons I .nil)))
  rs := (.cons I .nil)
  nres := 1
  rsh := [.fz]
  rp := false
  L := []
  mv := []
  eqs := []
  strs := []
noncomputable def f78 (K : Nat) (x : DL d78.ps) : Option (DL d78.rs) := Ev.run T [(45, d45.spec f45)] Go.Proofs.Try.f78 d78 K x
-- minecontrol/minecontrollaw34.awake
def d34 : FDef where
  ms := []
  ps := .nil
  rs := (.cons Ty.bool .nil)
  nres := 1
  rsh := [.fz]
  rp := false
  L := []
  mv := []
  eqs := []
  strs := []
noncomputable def f34 (K : Nat) (x : DL d34.ps) : Option (DL d34.rs) := Ev.run T [(39, d39.spec f39), (41, d41.spec f41), (42, d42.spec f42), (43, d43.spec f43), (78, d78.spec f78)] Go.Proofs.Try.f34 d34 K x
-- (*minecontrol/minecontrolmade.Dice).Of
def d35 : FDef where
  ms := [(.mut (.cons .fz (.cons .fz .nil))), .fz]
  ps := (.cons t88 (.cons (.sl 3 I) .nil))
  rs := (.cons I (.cons t88 .nil))
  nres := 1
  rsh := [.fz, (.cons .fz (.cons .fz .nil))]
  rp := false
  L := []
  mv := []
  eqs := []
  strs := []
noncomputable def f35 (K : Nat) (x : DL d35.ps) : Option (DL d35.rs) := Ev.run T [(19, d19.spec f19)] Go.Proofs.Try.f35 d35 K x
-- minecontrol/minecontrolref25.Copy
def d135 : FDef where
  ms := [.fz]
  ps := (.cons t45 .nil)
  rs := (.cons t45 .nil)
  nres := 1
  rsh := [(.cons .fz (.cons (.own .fz) .nil))]
  rp := false
  L := []
  mv := []
  eqs := []
  strs := []
noncomputable def f135 (K : Nat) (x : DL d135.ps) : Option (DL d135.rs) := Ev.run T [] Go.Proofs.Try.f135 d135 K x
-- minecontrol/minecontrolref26.CopyWorld
def d89 : FDef where
  ms := [.fz]
  ps := (.cons t42 .nil)
  rs := (.cons t42 .nil)
  nres := 1
  rsh := [(.cons (.own .fz) (.cons (.own (.cons .fz (.cons (.own .fz) .nil))) .nil))]
  rp := false
  L := [(3, [.box 1 t42 .fz, .box 2 t42 (.cons (.own .fz) (.cons (.own .fz) .nil)), .box 3 t42 (.cons (.own .fz) (.cons (.own (.cons .fz (.cons (.own .fz) .nil))) .nil)), .val 4 I .fz])]
  mv := [27]
  eqs := []
  strs := []
noncomputable def f89 (K : Nat) (x : DL d89.ps) : Option (DL d89.rs) := Ev.run T [(135, d135.spec f135)] Go.Proofs.Try.f89 d89 K x
noncomputable def l89_3 (K k1 : Nat) (x : DL (kTys (d89.keeps 3))) : Option (DL d89.rs) := Ev.loop T [(135, d135.spec f135)] Go.Proofs.Try.f89 d89 K 3 [k1] (dfltL _) x
-- minecontrol/minecontrolref26.Copy
def d40 : FDef where
  ms := [.fz]
  ps := (.cons t33 .nil)
  rs := (.cons t33 .nil)
  nres := 1
  rsh := [(.cons (.own (.cons (.own .fz) (.cons (.own (.cons .fz (.cons (.own .fz) .nil))) .nil))) .nil)]
  rp := false
  L := [(3, [.box 1 t33 .fz, .box 2 t33 (.cons (.own .fz) .nil), .box 3 t33 (.cons (.own (.cons (.own .fz) (.cons (.own (.cons .fz (.cons (.own .fz) .nil))) .nil))) .nil), .val 4 I .fz])]
  mv := [23]
  eqs := []
  strs := []
noncomputable def f40 (K : Nat) (x : DL d40.ps) : Option (DL d40.rs) := Ev.run T [(89, d89.spec f89)] Go.Proofs.Try.f40 d40 K x
noncomputable def l40_3 (K k1 : Nat) (x : DL (kTys (d40.keeps 3))) : Option (DL d40.rs) := Ev.loop T [(89, d89.spec f89)] Go.Proofs.Try.f40 d40 K 3 [k1] (dfltL _) x
-- minecontrol/firing.Abort
def d44 : FDef where
  ms := [.fz, .fz, .fz]
  ps := (.cons t57 (.cons t59 (.cons I .nil)))
  rs := (.cons t59 (.cons I .nil))
  nres := 2
  rsh := [.fz, .fz]
  rp := false
  L := []
  mv := []
  eqs := []
  strs := []
noncomputable def f44 (K : Nat) (x : DL d44.ps) : Option (DL d44.rs) := Ev.run T [(45, d45.spec f45), (91, d91.spec f91)] Go.Proofs.Try.f44 d44 K x
-- minecontrol/minecontrollaw34.FiringNeeds
def d9 : FDef where
  ms := [.fz]
  ps := (.cons (.sl 3 I) .nil)
  rs := (.cons Ty.bool .nil)
  nres := 1
  rsh := [.fz]
  rp := false
  L := [(10, [.box 3 t88 (.cons .fz (.cons .fz .nil)), .box 4 t57 (.cons (.own .fz) (.cons .fz (.cons .fz .nil))), .box 5 t63 .fz, .box 6 t33 .fz, .box 7 t33 .fz, .box 8 t59 .fz, .val 9 I .fz, .val 10 I .fz, .val 11 I .fz, .val 12 I .fz, .val 13 I .fz, .val 14 I .fz])]
  mv := []
  eqs := []
  strs := []
noncomputable def f9 (K : Nat) (x : DL d9.ps) : Option (DL d9.rs) := Ev.run T [(13, d13.spec f13), (34, d34.spec f34), (15, d15.spec f15), (39, d39.spec f39), (40, d40.spec f40), (19, d19.spec f19), (35, d35.spec f35), (22, d22.spec f22), (41, d41.spec f41), (45, d45.spec f45), (42, d42.spec f42), (43, d43.spec f43), (44, d44.spec f44)] Go.Proofs.Try.f9 d9 K x
noncomputable def l9_10 (K k1 : Nat) (x : DL (kTys (d9.keeps 10))) : Option (DL d9.rs) := Ev.loop T [(13, d13.spec f13), (34, d34.spec f34), (15, d15.spec f15), (39, d39.spec f39), (40, d40.spec f40), (19, d19.spec f19), (35, d35.spec f35), (22, d22.spec f22), (41, d41.spec f41), (45, d45.spec f45), (42, d42.spec f42), (43, d43.spec f43), (44, d44.spec f44)] Go.Proofs.Try.f9 d9 K 10 [k1] (dfltL _) x
-- slices.Clone[[]int,int]
def d103 : FDef where
  ms := [.fz]
  ps := (.cons (.sl 3 I) .nil)
  rs := (.cons (.sl 3 I) .nil)
  nres := 1
  rsh := [(.own .fz)]
  rp := false
  L := []
  mv := []
  eqs := []
  strs := []
noncomputable def f103 (K : Nat) (x : DL d103.ps) : Option (DL d103.rs) := Ev.run T [] Go.Proofs.Try.f103 d103 K x
-- minecontrol/keys.Start
def d51 : FDef where
  ms := [.fz]
  ps := (.cons (.sl 3 I) .nil)
  rs := (.cons t63 (.cons I .nil))
  nres := 2
  rsh := [(.cons (.own .fz) (.cons (.own .fz) (.cons .fz .nil))), .fz]
  rp := false
  L := []
  mv := []
  eqs := []
  strs := []
noncomputable def f51 (K : Nat) (x : DL d51.ps) : Option (DL d51.rs) := Ev.run T [(102, d102.spec f102), (103, d103.spec f103)] Go.Proofs.Try.f51 d51 K x
-- minecontrol/keys.copied
def d138 : FDef where
  ms := [.fz]
  ps := (.cons t63 .nil)
  rs := (.cons t63 .nil)
  nres := 1
  rsh := [(.cons (.own .fz) (.cons (.own .fz) (.cons .fz .nil)))]
  rp := false
  L := []
  mv := []
  eqs := []
  strs := []
noncomputable def f138 (K : Nat) (x : DL d138.ps) : Option (DL d138.rs) := Ev.run T [(103, d103.spec f103)] Go.Proofs.Try.f138 d138 K x
-- minecontrol/keys.move
def d104 : FDef where
  ms := [.fz, .fz, .fz, .fz]
  ps := (.cons t63 (.cons I (.cons I (.cons I .nil))))
  rs := (.cons t63 (.cons I .nil))
  nres := 2
  rsh := [.fz, .fz]
  rp := false
  L := []
  mv := [45]
  eqs := []
  strs := []
noncomputable def f104 (K : Nat) (x : DL d104.ps) : Option (DL d104.rs) := Ev.run T [(58, d58.spec f58), (93, d93.spec f93), (138, d138.spec f138)] Go.Proofs.Try.f104 d104 K x
-- minecontrol/keys.Lock
def d52 : FDef where
  ms := [.fz, .fz]
  ps := (.cons t63 (.cons I .nil))
  rs := (.cons t63 (.cons I .nil))
  nres := 2
  rsh := [.fz, .fz]
  rp := false
  L := []
  mv := []
  eqs := []
  strs := []
noncomputable def f52 (K : Nat) (x : DL d52.ps) : Option (DL d52.rs) := Ev.run T [(104, d104.spec f104)] Go.Proofs.Try.f52 d52 K x
-- minecontrol/keys.Insert
def d53 : FDef where
  ms := [.fz, .fz]
  ps := (.cons t63 (.cons I .nil))
  rs := (.cons t63 (.cons I .nil))
  nres := 2
  rsh := [.fz, .fz]
  rp := false
  L := []
  mv := []
  eqs := []
  strs := []
noncomputable def f53 (K : Nat) (x : DL d53.ps) : Option (DL d53.rs) := Ev.run T [(104, d104.spec f104)] Go.Proofs.Try.f53 d53 K x
-- minecontrol/keys.turn
def d105 : FDef where
  ms := [.fz, .fz]
  ps := (.cons t63 (.cons Ty.bool .nil))
  rs := (.cons t63 (.cons I .nil))
  nres := 2
  rsh := [.fz, .fz]
  rp := false
  L := []
  mv := [30]
  eqs := []
  strs := []
noncomputable def f105 (K : Nat) (x : DL d105.ps) : Option (DL d105.rs) := Ev.run T [(58, d58.spec f58), (108, d108.spec f108), (138, d138.spec f138)] Go.Proofs.Try.f105 d105 K x
-- minecontrol/keys.Draw
def d56 : FDef where
  ms := [.fz]
  ps := (.cons t63 .nil)
  rs := (.cons t63 (.cons I .nil))
  nres := 2
  rsh := [.fz, .fz]
  rp := false
  L := []
  mv := []
  eqs := []
  strs := []
noncomputable def f56 (K : Nat) (x : DL d56.ps) : Option (DL d56.rs) := Ev.run T [(105, d105.spec f105)] Go.Proofs.Try.f56 d56 K x
-- cmp.isNaN[int]
def d176 : FDef where
  ms := [.fz]
  ps := (.cons I .nil)
  rs := (.cons Ty.bool .nil)
  nres := 1
  rsh := [.fz]
  rp := false
  L := []
  mv := []
  eqs := []
  strs := []
noncomputable def f176 (K : Nat) (x : DL d176.ps) : Option (DL d176.rs) := Ev.run T [] Go.Proofs.Try.f176 d176 K x
-- cmp.Less[int]
def d163 : FDef where
  ms := [.fz, .fz]
  ps := (.cons I (.cons I .nil))
  rs := (.cons Ty.bool .nil)
  nres := 1
  rsh := [.fz]
  rp := false
  L := []
  mv := []
  eqs := []
  strs := []
noncomputable def f163 (K : Nat) (x : DL d163.ps) : Option (DL d163.rs) := Ev.run T [(176, d176.spec f176)] Go.Proofs.Try.f163 d163 K x
-- slices.insertionSortOrdered[int]
def d157 : FDef where
  ms := [(.row .fz), .fz, .fz]
  ps := (.cons (.sl 3 I) (.cons I (.cons I .nil)))
  rs := (.cons (.sl 3 I) .nil)
  nres := 0
  rsh := [(.own .fz)]
  rp := false
  L := [(1, [.row 0 3 I .fz, .val 1 I .fz, .val 2 I .fz, .val 6 I .fz]), (4, [.row 0 3 I .fz, .val 1 I .fz, .val 2 I .fz, .val 6 I .fz, .val 7 I .fz])]
  mv := []
  eqs := []
  strs := []
noncomputable def f157 (K : Nat) (x : DL d157.ps) : Option (DL d157.rs) := Ev.run T [(163, d163.spec f163)] Go.Proofs.Try.f157 d157 K x
noncomputable def l157_1 (K k1 : Nat) (x : DL (kTys (d157.keeps 1))) : Option (DL d157.rs) := Ev.loop T [(163, d163.spec f163)] Go.Proofs.Try.f157 d157 K 1 [k1] (dfltL _) x
noncomputable def l157_4 (K k1 k2 : Nat) (x : DL (kTys (d157.keeps 4))) : Option (DL d157.rs) := Ev.loop T [(163, d163.spec f163)] Go.Proofs.Try.f157 d157 K 4 [k1, k2] (dfltL _) x
-- math/bits.Len64
def d167 : FDef where
  ms := [.fz]
  ps := (.cons (.int .u64) .nil)
  rs := (.cons I .nil)
  nres := 1
  rsh := [.fz]
  rp := false
  L := []
  mv := []
  eqs := []
  strs := [9]
noncomputable def f167 (K : Nat) (x : DL d167.ps) : Option (DL d167.rs) := Ev.run T [] Go.Proofs.Try.f167 d167 K x
-- math/bits.Len
def d142 : FDef where
  ms := [.fz]
  ps := (.cons (.int .u64) .nil)
  rs := (.cons I .nil)
  nres := 1
  rsh := [.fz]
  rp := false
  L := []
  mv := []
  eqs := []
  strs := []
noncomputable def f142 (K : Nat) (x : DL d142.ps) : Option (DL d142.rs) := Ev.run T [(167, d167.spec f167)] Go.Proofs.Try.f142 d142 K x
-- slices.pdqsortOrdered[int]
def d141 : FDef where
  ms := [(.row .fz), .fz, .fz, .fz]
  ps := (.cons (.sl 3 I) (.cons I (.cons I (.cons I .nil))))
  rs := (.cons (.sl 3 I) .nil)
  nres := 0
  rsh := [(.own .fz)]
  rp := false
  L := [(1000001, [.row 0 3 I .fz, .val 1 I .fz, .val 2 I .fz, .val 3 I .fz, .val 8 Ty.bool .fz, .val 9 Ty.bool .fz])]
  mv := []
  eqs := []
  strs := []
noncomputable def f141 (K : Nat) (x : DL d141.ps) : Option (DL d141.rs) := Ev.run T [(157, d157.spec f157)] Go.Proofs.Try.f141 d141 K x
noncomputable def l141_1000001 (K k1 : Nat) (x : DL (kTys (d141.keeps 1000001))) : Option (DL d141.rs) := Ev.loop T [(157, d157.spec f157)] Go.Proofs.Try.f141 d141 K 1000001 [k1] (dfltL _) x
-- slices.Sort[[]int,int]
def d109 : FDef where
  ms := [(.row .fz)]
  ps := (.cons (.sl 3 I) .nil)
  rs := (.cons (.sl 3 I) .nil)
  nres := 0
  rsh := [(.own .fz)]
  rp := false
  L := []
  mv := []
  eqs := []
  strs := []
noncomputable def f109 (K : Nat) (x : DL d109.ps) : Option (DL d109.rs) := Ev.run T [(142, d142.spec f142), (141, d141.spec f141)] Go.Proofs.Try.f109 d109 K x
-- minecontrol/keys.Locked
def d59 : FDef where
  ms := [.fz]
  ps := (.cons t63 .nil)
  rs := (.cons (.sl 3 I) .nil)
  nres := 1
  rsh := [(.own .fz)]
  rp := false
  L := [(3, [.box 1 t63 .fz, .val 3 (.sl 3 I) (.own .fz), .val 7 (.sl 3 I) .fz, .val 8 I .fz, .val 9 I .fz])]
  mv := [34]
  eqs := []
  strs := []
noncomputable def f59 (K : Nat) (x : DL d59.ps) : Option (DL d59.rs) := Ev.run T [(109, d109.spec f109)] Go.Proofs.Try.f59 d59 K x
noncomputable def l59_3 (K k1 : Nat) (x : DL (kTys (d59.keeps 3))) : Option (DL d59.rs) := Ev.loop T [(109, d109.spec f109)] Go.Proofs.Try.f59 d59 K 3 [k1] (dfltL _) x
-- minecontrol/minecontrollaw33.awake
def d46 : FDef where
  ms := []
  ps := .nil
  rs := (.cons Ty.bool .nil)
  nres := 1
  rsh := [.fz]
  rp := false
  L := []
  mv := []
  eqs := []
  strs := []
noncomputable def f46 (K : Nat) (x : DL d46.ps) : Option (DL d46.rs) := Ev.run T [(51, d51.spec f51), (52, d52.spec f52), (53, d53.spec f53), (56, d56.spec f56), (59, d59.spec f59), (58, d58.spec f58)] Go.Proofs.Try.f46 d46 K x
-- minecontrol/minecontrolref23.Set
def d136 : FDef where
  ms := [.fz, .fz]
  ps := (.cons (.sl 3 I) (.cons I .nil))
  rs := (.cons Ty.bool .nil)
  nres := 1
  rsh := [.fz]
  rp := false
  L := [(2, [.val 0 (.sl 3 I) .fz, .val 1 I .fz, .val 5 I .fz])]
  mv := []
  eqs := []
  strs := []
noncomputable def f136 (K : Nat) (x : DL d136.ps) : Option (DL d136.rs) := Ev.run T [] Go.Proofs.Try.f136 d136 K x
noncomputable def l136_2 (K k1 : Nat) (x : DL (kTys (d136.keeps 2))) : Option (DL d136.rs) := Ev.loop T [] Go.Proofs.Try.f136 d136 K 2 [k1] (dfltL _) x
-- minecontrol/minecontrolref33.Valid
def d94 : FDef where
  ms := [.fz]
  ps := (.cons t63 .nil)
  rs := (.cons Ty.bool .nil)
  nres := 1
  rsh := [.fz]
  rp := false
  L := [(4, [.box 1 t63 .fz, .val 3 I .fz])]
  mv := []
  eqs := []
  strs := []
noncomputable def f94 (K : Nat) (x : DL d94.ps) : Option (DL d94.rs) := Ev.run T [(136, d136.spec f136)] Go.Proofs.Try.f94 d94 K x
noncomputable def l94_4 (K k1 : Nat) (x : DL (kTys (d94.keeps 4))) : Option (DL d94.rs) := Ev.loop T [(136, d136.spec f136)] Go.Proofs.Try.f94 d94 K 4 [k1] (dfltL _) x
-- minecontrol/minecontrolref33.Start
def d47 : FDef where
  ms := [.fz]
  ps := (.cons (.sl 3 I) .nil)
  rs := (.cons t63 (.cons I .nil))
  nres := 2
  rsh := [(.cons (.own .fz) (.cons (.own .fz) (.cons .fz .nil))), .fz]
  rp := false
  L := []
  mv := [15]
  eqs := []
  strs := []
noncomputable def f47 (K : Nat) (x : DL d47.ps) : Option (DL d47.rs) := Ev.run T [(94, d94.spec f94)] Go.Proofs.Try.f47 d47 K x
-- minecontrol/keys.Remove
def d54 : FDef where
  ms := [.fz, .fz]
  ps := (.cons t63 (.cons I .nil))
  rs := (.cons t63 (.cons I .nil))
  nres := 2
  rsh := [.fz, .fz]
  rp := false
  L := []
  mv := []
  eqs := []
  strs := []
noncomputable def f54 (K : Nat) (x : DL d54.ps) : Option (DL d54.rs) := Ev.run T [(104, d104.spec f104)] Go.Proofs.Try.f54 d54 K x
-- minecontrol/keys.Unlock
def d55 : FDef where
  ms := [.fz, .fz]
  ps := (.cons t63 (.cons I .nil))
  rs := (.cons t63 (.cons I .nil))
  nres := 2
  rsh := [.fz, .fz]
  rp := false
  L := []
  mv := []
  eqs := []
  strs := []
noncomputable def f55 (K : Nat) (x : DL d55.ps) : Option (DL d55.rs) := Ev.run T [(104, d104.spec f104)] Go.Proofs.Try.f55 d55 K x
-- minecontrol/keys.Return
def d57 : FDef where
  ms := [.fz]
  ps := (.cons t63 .nil)
  rs := (.cons t63 (.cons I .nil))
  nres := 2
  rsh := [.fz, .fz]
  rp := false
  L := []
  mv := []
  eqs := []
  strs := []
noncomputable def f57 (K : Nat) (x : DL d57.ps) : Option (DL d57.rs) := Ev.run T [(105, d105.spec f105)] Go.Proofs.Try.f57 d57 K x
-- minecontrol/minecontrolref33.Copy
def d50 : FDef where
  ms := [.fz]
  ps := (.cons t63 .nil)
  rs := (.cons t63 .nil)
  nres := 1
  rsh := [(.cons (.own .fz) (.cons (.own .fz) (.cons .fz .nil)))]
  rp := false
  L := []
  mv := []
  eqs := []
  strs := []
noncomputable def f50 (K : Nat) (x : DL d50.ps) : Option (DL d50.rs) := Ev.run T [] Go.Proofs.Try.f50 d50 K x
-- minecontrol/minecontrolref33.move
def d137 : FDef where
  ms := [.fz, .fz, .fz, .fz, .fz]
  ps := (.cons t63 (.cons I (.cons I (.cons I (.cons Ty.bool .nil)))))
  rs := (.cons t63 (.cons I .nil))
  nres := 2
  rsh := [(.cons (.own .fz) (.cons (.own .fz) (.cons .fz .nil))), .fz]
  rp := false
  L := []
  mv := [18, 29, 42, 48]
  eqs := []
  strs := []
noncomputable def f137 (K : Nat) (x : DL d137.ps) : Option (DL d137.rs) := Ev.run T [(50, d50.spec f50), (94, d94.spec f94)] Go.Proofs.Try.f137 d137 K x
-- minecontrol/minecontrolref33.Lock
def d96 : FDef where
  ms := [.fz, .fz]
  ps := (.cons t63 (.cons I .nil))
  rs := (.cons t63 (.cons I .nil))
  nres := 2
  rsh := [(.cons (.own .fz) (.cons (.own .fz) (.cons .fz .nil))), .fz]
  rp := false
  L := []
  mv := []
  eqs := []
  strs := []
noncomputable def f96 (K : Nat) (x : DL d96.ps) : Option (DL d96.rs) := Ev.run T [(137, d137.spec f137)] Go.Proofs.Try.f96 d96 K x
-- minecontrol/minecontrolref33.Insert
def d97 : FDef where
  ms := [.fz, .fz]
  ps := (.cons t63 (.cons I .nil))
  rs := (.cons t63 (.cons I .nil))
  nres := 2
  rsh := [(.cons (.own .fz) (.cons (.own .fz) (.cons .fz .nil))), .fz]
  rp := false
  L := []
  mv := []
  eqs := []
  strs := []
noncomputable def f97 (K : Nat) (x : DL d97.ps) : Option (DL d97.rs) := Ev.run T [(137, d137.spec f137)] Go.Proofs.Try.f97 d97 K x
-- minecontrol/minecontrolref33.Remove
def d98 : FDef where
  ms := [.fz, .fz]
  ps := (.cons t63 (.cons I .nil))
  rs := (.cons t63 (.cons I .nil))
  nres := 2
  rsh := [(.cons (.own .fz) (.cons (.own .fz) (.cons .fz .nil))), .fz]
  rp := false
  L := []
  mv := []
  eqs := []
  strs := []
noncomputable def f98 (K : Nat) (x : DL d98.ps) : Option (DL d98.rs) := Ev.run T [(137, d137.spec f137)] Go.Proofs.Try.f98 d98 K x
-- minecontrol/minecontrolref33.Unlock
def d99 : FDef where
  ms := [.fz, .fz]
  ps := (.cons t63 (.cons I .nil))
  rs := (.cons t63 (.cons I .nil))
  nres := 2
  rsh := [(.cons (.own .fz) (.cons (.own .fz) (.cons .fz .nil))), .fz]
  rp := false
  L := []
  mv := []
  eqs := []
  strs := []
noncomputable def f99 (K : Nat) (x : DL d99.ps) : Option (DL d99.rs) := Ev.run T [(137, d137.spec f137)] Go.Proofs.Try.f99 d99 K x
-- minecontrol/minecontrolref33.Draw
def d100 : FDef where
  ms := [.fz]
  ps := (.cons t63 .nil)
  rs := (.cons t63 (.cons I .nil))
  nres := 2
  rsh := [(.cons (.own .fz) (.cons (.own .fz) (.cons .fz .nil))), .fz]
  rp := false
  L := [(5, [.box 1 t63 (.cons (.own .fz) (.cons (.own .fz) (.cons .fz .nil))), .box 2 t63 (.cons (.own .fz) (.cons (.own .fz) (.cons .fz .nil))), .val 4 I .fz])]
  mv := [10, 24, 27, 29]
  eqs := []
  strs := []
noncomputable def f100 (K : Nat) (x : DL d100.ps) : Option (DL d100.rs) := Ev.run T [(50, d50.spec f50), (94, d94.spec f94)] Go.Proofs.Try.f100 d100 K x
noncomputable def l100_5 (K k1 : Nat) (x : DL (kTys (d100.keeps 5))) : Option (DL d100.rs) := Ev.loop T [(50, d50.spec f50), (94, d94.spec f94)] Go.Proofs.Try.f100 d100 K 5 [k1] (dfltL _) x
-- minecontrol/minecontrolref33.Return
def d101 : FDef where
  ms := [.fz]
  ps := (.cons t63 .nil)
  rs := (.cons t63 (.cons I .nil))
  nres := 2
  rsh := [(.cons (.own .fz) (.cons (.own .fz) (.cons .fz .nil))), .fz]
  rp := false
  L := []
  mv := [9, 13, 15]
  eqs := []
  strs := []
noncomputable def f101 (K : Nat) (x : DL d101.ps) : Option (DL d101.rs) := Ev.run T [(50, d50.spec f50), (94, d94.spec f94)] Go.Proofs.Try.f101 d101 K x
-- minecontrol/minecontrollaw33.step
def d49 : FDef where
  ms := [.fz, .fz, .fz]
  ps := (.cons t63 (.cons I (.cons I .nil)))
  rs := (.cons t63 (.cons I (.cons t63 (.cons I .nil))))
  nres := 4
  rsh := [.fz, .fz, (.cons (.own .fz) (.cons (.own .fz) (.cons .fz .nil))), .fz]
  rp := false
  L := []
  mv := [51, 69, 87, 105, 121, 135]
  eqs := []
  strs := []
noncomputable def f49 (K : Nat) (x : DL d49.ps) : Option (DL d49.rs) := Ev.run T [(52, d52.spec f52), (96, d96.spec f96), (53, d53.spec f53), (97, d97.spec f97), (54, d54.spec f54), (98, d98.spec f98), (55, d55.spec f55), (99, d99.spec f99), (56, d56.spec f56), (100, d100.spec f100), (57, d57.spec f57), (101, d101.spec f101)] Go.Proofs.Try.f49 d49 K x
-- minecontrol/minecontrolref23.SameInts
def d27 : FDef where
  ms := [.fz, .fz]
  ps := (.cons (.sl 3 I) (.cons (.sl 3 I) .nil))
  rs := (.cons Ty.bool .nil)
  nres := 1
  rsh := [.fz]
  rp := false
  L := [(4, [.val 0 (.sl 3 I) .fz, .val 1 (.sl 3 I) .fz, .val 5 I .fz])]
  mv := []
  eqs := []
  strs := []
noncomputable def f27 (K : Nat) (x : DL d27.ps) : Option (DL d27.rs) := Ev.run T [] Go.Proofs.Try.f27 d27 K x
noncomputable def l27_4 (K k1 : Nat) (x : DL (kTys (d27.keeps 4))) : Option (DL d27.rs) := Ev.loop T [] Go.Proofs.Try.f27 d27 K 4 [k1] (dfltL _) x
-- minecontrol/minecontrolref33.Same
def d60 : FDef where
  ms := [.fz, .fz]
  ps := (.cons t63 (.cons t63 .nil))
  rs := (.cons Ty.bool .nil)
  nres := 1
  rsh := [.fz]
  rp := false
  L := []
  mv := []
  eqs := []
  strs := []
noncomputable def f60 (K : Nat) (x : DL d60.ps) : Option (DL d60.rs) := Ev.run T [(27, d27.spec f27)] Go.Proofs.Try.f60 d60 K x
-- minecontrol/minecontrolref33.Locked
def d95 : FDef where
  ms := [.fz]
  ps := (.cons t63 .nil)
  rs := (.cons (.sl 3 I) .nil)
  nres := 1
  rsh := [.fz]
  rp := false
  L := [(3, [.box 1 t63 .fz, .val 3 (.sl 3 I) .fz, .val 4 I .fz]), (7, [.box 1 t63 .fz, .val 3 (.sl 3 I) .fz, .val 4 I .fz, .val 5 I .fz])]
  mv := []
  eqs := []
  strs := []
noncomputable def f95 (K : Nat) (x : DL d95.ps) : Option (DL d95.rs) := Ev.run T [] Go.Proofs.Try.f95 d95 K x
noncomputable def l95_3 (K k1 : Nat) (x : DL (kTys (d95.keeps 3))) : Option (DL d95.rs) := Ev.loop T [] Go.Proofs.Try.f95 d95 K 3 [k1] (dfltL _) x
noncomputable def l95_7 (K k1 k2 : Nat) (x : DL (kTys (d95.keeps 7))) : Option (DL d95.rs) := Ev.loop T [] Go.Proofs.Try.f95 d95 K 7 [k1, k2] (dfltL _) x
-- minecontrol/minecontrollaw33.agree
def d48 : FDef where
  ms := [.fz, .fz]
  ps := (.cons t63 (.cons I .nil))
  rs := (.cons Ty.bool .nil)
  nres := 1
  rsh := [.fz]
  rp := false
  L := [(2, [.val 1 I .fz, .box 2 t63 .fz, .val 5 I .fz]), (9, [.box 2 t63 .fz, .val 10 (.sl 3 I) (.own .fz), .val 11 (.sl 3 I) .fz, .val 12 I .fz])]
  mv := []
  eqs := []
  strs := []
noncomputable def f48 (K : Nat) (x : DL d48.ps) : Option (DL d48.rs) := Ev.run T [(49, d49.spec f49), (60, d60.spec f60), (59, d59.spec f59), (95, d95.spec f95), (58, d58.spec f58), (94, d94.spec f94)] Go.Proofs.Try.f48 d48 K x
noncomputable def l48_2 (K k1 : Nat) (x : DL (kTys (d48.keeps 2))) : Option (DL d48.rs) := Ev.loop T [(49, d49.spec f49), (60, d60.spec f60), (59, d59.spec f59), (95, d95.spec f95), (58, d58.spec f58), (94, d94.spec f94)] Go.Proofs.Try.f48 d48 K 2 [k1] (dfltL _) x
noncomputable def l48_9 (K k1 : Nat) (x : DL (kTys (d48.keeps 9))) : Option (DL d48.rs) := Ev.loop T [(49, d49.spec f49), (60, d60.spec f60), (59, d59.spec f59), (95, d95.spec f95), (58, d58.spec f58), (94, d94.spec f94)] Go.Proofs.Try.f48 d48 K 9 [k1] (dfltL _) x
-- minecontrol/minecontrollaw33.KeysMade
def d10 : FDef where
  ms := [.fz]
  ps := (.cons (.sl 3 I) .nil)
  rs := (.cons Ty.bool .nil)
  nres := 1
  rsh := [.fz]
  rp := false
  L := [(6, [.box 3 t88 (.cons .fz (.cons .fz .nil)), .val 4 (.sl 3 I) (.own .fz), .val 5 I .fz]), (11, [.box 3 t88 (.cons .fz (.cons .fz .nil)), .val 4 (.sl 3 I) (.own .fz), .box 6 t63 (.cons (.own .fz) (.cons (.own .fz) (.cons .fz .nil))), .val 8 I .fz])]
  mv := []
  eqs := []
  strs := []
noncomputable def f10 (K : Nat) (x : DL d10.ps) : Option (DL d10.rs) := Ev.run T [(13, d13.spec f13), (46, d46.spec f46), (15, d15.spec f15), (19, d19.spec f19), (47, d47.spec f47), (48, d48.spec f48), (49, d49.spec f49), (50, d50.spec f50), (35, d35.spec f35)] Go.Proofs.Try.f10 d10 K x
noncomputable def l10_6 (K k1 : Nat) (x : DL (kTys (d10.keeps 6))) : Option (DL d10.rs) := Ev.loop T [(13, d13.spec f13), (46, d46.spec f46), (15, d15.spec f15), (19, d19.spec f19), (47, d47.spec f47), (48, d48.spec f48), (49, d49.spec f49), (50, d50.spec f50), (35, d35.spec f35)] Go.Proofs.Try.f10 d10 K 6 [k1] (dfltL _) x
noncomputable def l10_11 (K k1 : Nat) (x : DL (kTys (d10.keeps 11))) : Option (DL d10.rs) := Ev.loop T [(13, d13.spec f13), (46, d46.spec f46), (15, d15.spec f15), (19, d19.spec f19), (47, d47.spec f47), (48, d48.spec f48), (49, d49.spec f49), (50, d50.spec f50), (35, d35.spec f35)] Go.Proofs.Try.f10 d10 K 11 [k1] (dfltL _) x
-- minecontrol/minecontrollaw33.KeysSafe
def d11 : FDef where
  ms := [.fz]
  ps := (.cons (.sl 3 I) .nil)
  rs := (.cons Ty.bool .nil)
  nres := 1
  rsh := [.fz]
  rp := false
  L := [(6, [.box 3 t88 (.cons .fz (.cons .fz .nil)), .box 4 t63 .fz, .val 5 I .fz, .val 6 I .fz])]
  mv := []
  eqs := []
  strs := []
noncomputable def f11 (K : Nat) (x : DL d11.ps) : Option (DL d11.rs) := Ev.run T [(13, d13.spec f13), (46, d46.spec f46), (15, d15.spec f15), (19, d19.spec f19), (51, d51.spec f51), (52, d52.spec f52), (58, d58.spec f58), (59, d59.spec f59), (60, d60.spec f60), (53, d53.spec f53), (54, d54.spec f54), (55, d55.spec f55), (56, d56.spec f56), (57, d57.spec f57)] Go.Proofs.Try.f11 d11 K x
noncomputable def l11_6 (K k1 : Nat) (x : DL (kTys (d11.keeps 6))) : Option (DL d11.rs) := Ev.loop T [(13, d13.spec f13), (46, d46.spec f46), (15, d15.spec f15), (19, d19.spec f19), (51, d51.spec f51), (52, d52.spec f52), (58, d58.spec f58), (59, d59.spec f59), (60, d60.spec f60), (53, d53.spec f53), (54, d54.spec f54), (55, d55.spec f55), (56, d56.spec f56), (57, d57.spec f57)] Go.Proofs.Try.f11 d11 K 6 [k1] (dfltL _) x
-- minecontrol/minecontrollaw33.KeysBack
def d12 : FDef where
  ms := [.fz]
  ps := (.cons (.sl 3 I) .nil)
  rs := (.cons Ty.bool .nil)
  nres := 1
  rsh := [.fz]
  rp := false
  L := [(6, [.box 3 t88 (.cons .fz (.cons .fz .nil)), .box 4 t63 (.cons (.own .fz) (.cons (.own .fz) (.cons .fz .nil))), .val 6 I .fz])]
  mv := []
  eqs := []
  strs := []
noncomputable def f12 (K : Nat) (x : DL d12.ps) : Option (DL d12.rs) := Ev.run T [(13, d13.spec f13), (46, d46.spec f46), (15, d15.spec f15), (19, d19.spec f19), (47, d47.spec f47), (35, d35.spec f35), (49, d49.spec f49), (52, d52.spec f52), (55, d55.spec f55), (60, d60.spec f60), (53, d53.spec f53), (54, d54.spec f54), (56, d56.spec f56), (57, d57.spec f57)] Go.Proofs.Try.f12 d12 K x
noncomputable def l12_6 (K k1 : Nat) (x : DL (kTys (d12.keeps 6))) : Option (DL d12.rs) := Ev.loop T [(13, d13.spec f13), (46, d46.spec f46), (15, d15.spec f15), (19, d19.spec f19), (47, d47.spec f47), (35, d35.spec f35), (49, d49.spec f49), (52, d52.spec f52), (55, d55.spec f55), (60, d60.spec f60), (53, d53.spec f53), (54, d54.spec f54), (56, d56.spec f56), (57, d57.spec f57)] Go.Proofs.Try.f12 d12 K 6 [k1] (dfltL _) x
end Fs
