/- The functions that the law reaches, as runs of the evaluator; each is sound; what each computes. No condition. -/
import Derived.Test.YtcmhmonmhplboaaE1
import Derived.KernelRfl
import Derived.Test.YtcmhmonmhplboaaProg
set_option linter.all false
set_option linter.unusedVariables false
set_option linter.unusedSimpArgs false
set_option linter.unnecessarySimpa false
set_option autoImplicit true
set_option relaxedAutoImplicit true
set_option maxRecDepth 100000
open Go Go.Ev
namespace Fs
abbrev I : Ty := .int .i64
abbrev t90 : Ty := .agg (.cons I (.cons Ty.bool .nil))
abbrev t47 : Ty := .agg (.cons I (.cons I .nil))
abbrev t92 : Ty := .agg (.cons I (.cons I (.cons I (.cons I (.cons Ty.bool (.cons Ty.bool (.cons t47 (.cons t47 .nil))))))))
abbrev t29 : Ty := .agg (.cons (.sl 91 t90) (.cons (.sl 93 t92) .nil))
abbrev t45 : Ty := .agg (.cons I (.cons (.sl 3 I) .nil))
abbrev t42 : Ty := .agg (.cons (.sl 3 I) (.cons (.sl 46 t45) .nil))
abbrev t33 : Ty := .agg (.cons (.sl 43 t42) .nil)
abbrev t57 : Ty := .agg (.cons (.sl 3 I) (.cons I (.cons I .nil)))
abbrev t59 : Ty := .agg (.cons I (.cons I (.cons I (.cons I .nil))))
abbrev t63 : Ty := .agg (.cons (.sl 3 I) (.cons (.sl 3 I) (.cons Ty.bool .nil)))
abbrev t88 : Ty := .agg (.cons (.sl 3 I) (.cons I .nil))
abbrev t110 : Ty := .agg (.cons t57 (.cons t59 (.cons t63 (.cons t33 (.cons I (.cons I .nil))))))
def T : List (TypeId × Ty) := [(3, I), (4, Ty.bool), (22, (.sl 3 I)), (27, (.sl 91 t90)), (28, (.sl 93 t92)), (30, t29), (32, (.sl 43 t42)), (34, t33), (40, (.fn (.cons I .nil) (.cons Ty.bool .nil))), (41, (.sl 46 t45)), (43, t42), (46, t45), (48, t47), (50, (.arr 2 I)), (52, (.sl 22 (.sl 3 I))), (58, t57), (60, t59), (64, t63), (71, I), (89, t88), (91, t90), (93, t92), (104, (.fn (.cons t42 .nil) (.cons Ty.bool .nil))), (111, t110)]
-- minecontrol/minecontrolmade.Light
def d13 : FDef where
  ms := [.fz]
  ps := (.cons (.sl 3 I) .nil)
  rs := (.cons Ty.bool .nil)
  nres := 1
  rsh := [.fz]
  rp := false
  L := []
  mv := []
  eqs := []
  strs := []
noncomputable def f13 (K : Nat) (x : DL d13.ps) : Option (DL d13.rs) := Ev.run T [] Go.Proofs.Try.f13 d13 K x
-- slices.IndexFunc[[]int,int]
def d139 : FDef where
  ms := [.fz, .fz]
  ps := (.cons (.sl 3 I) (.cons (.fn (.cons I .nil) (.cons Ty.bool .nil)) .nil))
  rs := (.cons I .nil)
  nres := 1
  rsh := [.fz]
  rp := false
  L := [(2, [.val 0 (.sl 3 I) .fz, .val 1 (.fn (.cons I .nil) (.cons Ty.bool .nil)) .fz, .val 7 I .fz, .val 8 I .fz])]
  mv := []
  eqs := []
  strs := []
noncomputable def f139 (K : Nat) (x : DL d139.ps) : Option (DL d139.rs) := Ev.run T [] Go.Proofs.Try.f139 d139 K x
noncomputable def l139_2 (K k1 : Nat) (x : DL (kTys (d139.keeps 2))) : Option (DL d139.rs) := Ev.loop T [] Go.Proofs.Try.f139 d139 K 2 [k1] (dfltL _) x
-- slices.ContainsFunc[[]int,int]
def d107 : FDef where
  ms := [.fz, .fz]
  ps := (.cons (.sl 3 I) (.cons (.fn (.cons I .nil) (.cons Ty.bool .nil)) .nil))
  rs := (.cons Ty.bool .nil)
  nres := 1
  rsh := [.fz]
  rp := false
  L := []
  mv := []
  eqs := []
  strs := []
noncomputable def f107 (K : Nat) (x : DL d107.ps) : Option (DL d107.rs) := Ev.run T [(139, d139.spec f139)] Go.Proofs.Try.f107 d107 K x
-- minecontrol/lists.Where
def d67 : FDef where
  ms := [.fz, .fz]
  ps := (.cons I (.cons (.fn (.cons I .nil) (.cons Ty.bool .nil)) .nil))
  rs := (.cons (.sl 3 I) .nil)
  nres := 1
  rsh := [(.own .fz)]
  rp := false
  L := [(3, [.val 1 (.fn (.cons I .nil) (.cons Ty.bool .nil)) .fz, .val 5 (.sl 3 I) (.own .fz), .val 7 I .fz, .val 8 I .fz])]
  mv := [19]
  eqs := []
  strs := []
noncomputable def f67 (K : Nat) (x : DL d67.ps) : Option (DL d67.rs) := Ev.run T [] Go.Proofs.Try.f67 d67 K x
noncomputable def l67_3 (K k1 : Nat) (x : DL (kTys (d67.keeps 3))) : Option (DL d67.rs) := Ev.loop T [] Go.Proofs.Try.f67 d67 K 3 [k1] (dfltL _) x
-- minecontrol/places.Possible$1
def d152 : FDef where
  ms := [.fz, .efz, .efz]
  ps := (.cons I (.cons t45 (.cons I .nil)))
  rs := (.cons Ty.bool .nil)
  nres := 1
  rsh := [.fz]
  rp := false
  L := []
  mv := []
  eqs := []
  strs := []
noncomputable def f152 (K : Nat) (x : DL d152.ps) : Option (DL d152.rs) := Ev.run T [] Go.Proofs.Try.f152 d152 K x
-- minecontrol/places.Possible
def d121 : FDef where
  ms := [.fz, .fz]
  ps := (.cons t45 (.cons I .nil))
  rs := (.cons (.sl 3 I) .nil)
  nres := 1
  rsh := [(.own .fz)]
  rp := false
  L := []
  mv := []
  eqs := []
  strs := []
noncomputable def f121 (K : Nat) (x : DL d121.ps) : Option (DL d121.rs) := Ev.run T [(152, d152.spec f152), (67, d67.spec f67)] Go.Proofs.Try.f121 d121 K x
-- slices.Index[[]int,int]
def d153 : FDef where
  ms := [.fz, .fz]
  ps := (.cons (.sl 3 I) (.cons I .nil))
  rs := (.cons I .nil)
  nres := 1
  rsh := [.fz]
  rp := false
  L := [(2, [.val 0 (.sl 3 I) .fz, .val 1 I .fz, .val 7 I .fz, .val 8 I .fz])]
  mv := []
  eqs := []
  strs := []
noncomputable def f153 (K : Nat) (x : DL d153.ps) : Option (DL d153.rs) := Ev.run T [] Go.Proofs.Try.f153 d153 K x
noncomputable def l153_2 (K k1 : Nat) (x : DL (kTys (d153.keeps 2))) : Option (DL d153.rs) := Ev.loop T [] Go.Proofs.Try.f153 d153 K 2 [k1] (dfltL _) x
-- slices.Contains[[]int,int]
def d123 : FDef where
  ms := [.fz, .fz]
  ps := (.cons (.sl 3 I) (.cons I .nil))
  rs := (.cons Ty.bool .nil)
  nres := 1
  rsh := [.fz]
  rp := false
  L := []
  mv := []
  eqs := []
  strs := []
noncomputable def f123 (K : Nat) (x : DL d123.ps) : Option (DL d123.rs) := Ev.run T [(153, d153.spec f153)] Go.Proofs.Try.f123 d123 K x
-- minecontrol/heads.look$1
def d122 : FDef where
  ms := [.fz, .efz]
  ps := (.cons I (.cons (.sl 3 I) .nil))
  rs := (.cons Ty.bool .nil)
  nres := 1
  rsh := [.fz]
  rp := false
  L := []
  mv := []
  eqs := []
  strs := []
noncomputable def f122 (K : Nat) (x : DL d122.ps) : Option (DL d122.rs) := Ev.run T [(123, d123.spec f123)] Go.Proofs.Try.f122 d122 K x
-- minecontrol/heads.look$2
def d124 : FDef where
  ms := [.fz, .efz]
  ps := (.cons I (.cons (.fn (.cons I .nil) (.cons Ty.bool .nil)) .nil))
  rs := (.cons Ty.bool .nil)
  nres := 1
  rsh := [.fz]
  rp := false
  L := []
  mv := []
  eqs := []
  strs := []
noncomputable def f124 (K : Nat) (x : DL d124.ps) : Option (DL d124.rs) := Ev.run T [] Go.Proofs.Try.f124 d124 K x
-- minecontrol/heads.look
def d65 : FDef where
  ms := [.fz, .fz, .fz, .fz]
  ps := (.cons t42 (.cons I (.cons (.sl 3 I) (.cons I .nil))))
  rs := (.cons Ty.bool (.cons Ty.bool .nil))
  nres := 2
  rsh := [.fz, .fz]
  rp := false
  L := []
  mv := []
  eqs := []
  strs := []
noncomputable def f65 (K : Nat) (x : DL d65.ps) : Option (DL d65.rs) := Ev.run T [(121, d121.spec f121), (122, d122.spec f122), (107, d107.spec f107), (124, d124.spec f124)] Go.Proofs.Try.f65 d65 K x
-- minecontrol/heads.Count
def d24 : FDef where
  ms := [.fz, .fz, .fz]
  ps := (.cons t33 (.cons (.sl 3 I) (.cons I .nil)))
  rs := (.cons t47 .nil)
  nres := 1
  rsh := [.fz]
  rp := false
  L := [(3, [.val 1 (.sl 3 I) .fz, .val 2 I .fz, .box 6 t47 (.cons .fz (.cons .fz .nil)), .box 7 t47 (.cons .fz (.cons .fz .nil)), .val 16 (.sl 43 t42) .fz, .val 17 I .fz, .val 18 I .fz]), (7, [.val 1 (.sl 3 I) .fz, .val 2 I .fz, .box 6 t47 (.cons .fz (.cons .fz .nil)), .box 7 t47 (.cons .fz (.cons .fz .nil)), .val 8 I .fz, .box 9 t42 .fz, .val 10 I .fz, .val 11 I .fz, .val 16 (.sl 43 t42) .fz, .val 17 I .fz, .val 18 I .fz, .val 25 I .fz, .val 26 I .fz])]
  mv := []
  eqs := []
  strs := []
noncomputable def f24 (K : Nat) (x : DL d24.ps) : Option (DL d24.rs) := Ev.run T [(65, d65.spec f65)] Go.Proofs.Try.f24 d24 K x
noncomputable def l24_3 (K k1 : Nat) (x : DL (kTys (d24.keeps 3))) : Option (DL d24.rs) := Ev.loop T [(65, d65.spec f65)] Go.Proofs.Try.f24 d24 K 3 [k1] (dfltL _) x
noncomputable def l24_7 (K k1 k2 : Nat) (x : DL (kTys (d24.keeps 7))) : Option (DL d24.rs) := Ev.loop T [(65, d65.spec f65)] Go.Proofs.Try.f24 d24 K 7 [k1, k2] (dfltL _) x
-- minecontrol/heads.persons
def d68 : FDef where
  ms := [.fz]
  ps := (.cons t33 .nil)
  rs := (.cons I .nil)
  nres := 1
  rsh := [.fz]
  rp := false
  L := []
  mv := []
  eqs := []
  strs := []
noncomputable def f68 (K : Nat) (x : DL d68.ps) : Option (DL d68.rs) := Ev.run T [] Go.Proofs.Try.f68 d68 K x
-- slices.IndexFunc[[]minecontrol/api.World,minecontrol/api.World]
def d125 : FDef where
  ms := [.fz, .fz]
  ps := (.cons (.sl 43 t42) (.cons (.fn (.cons t42 .nil) (.cons Ty.bool .nil)) .nil))
  rs := (.cons I .nil)
  nres := 1
  rsh := [.fz]
  rp := false
  L := [(2, [.val 0 (.sl 43 t42) .fz, .val 1 (.fn (.cons t42 .nil) (.cons Ty.bool .nil)) .fz, .val 7 I .fz, .val 8 I .fz])]
  mv := []
  eqs := []
  strs := []
noncomputable def f125 (K : Nat) (x : DL d125.ps) : Option (DL d125.rs) := Ev.run T [] Go.Proofs.Try.f125 d125 K x
noncomputable def l125_2 (K k1 : Nat) (x : DL (kTys (d125.keeps 2))) : Option (DL d125.rs) := Ev.loop T [] Go.Proofs.Try.f125 d125 K 2 [k1] (dfltL _) x
-- slices.ContainsFunc[[]minecontrol/api.World,minecontrol/api.World]
def d70 : FDef where
  ms := [.fz, .fz]
  ps := (.cons (.sl 43 t42) (.cons (.fn (.cons t42 .nil) (.cons Ty.bool .nil)) .nil))
  rs := (.cons Ty.bool .nil)
  nres := 1
  rsh := [.fz]
  rp := false
  L := []
  mv := []
  eqs := []
  strs := []
noncomputable def f70 (K : Nat) (x : DL d70.ps) : Option (DL d70.rs) := Ev.run T [(125, d125.spec f125)] Go.Proofs.Try.f70 d70 K x
-- minecontrol/heads.Sure$1$1
def d71 : FDef where
  ms := [.fz, .efz, .efz, .efz]
  ps := (.cons t42 (.cons I (.cons (.sl 3 I) (.cons I .nil))))
  rs := (.cons Ty.bool .nil)
  nres := 1
  rsh := [.fz]
  rp := false
  L := []
  mv := []
  eqs := []
  strs := []
noncomputable def f71 (K : Nat) (x : DL d71.ps) : Option (DL d71.rs) := Ev.run T [(65, d65.spec f65)] Go.Proofs.Try.f71 d71 K x
-- minecontrol/heads.Sure$1
def d69 : FDef where
  ms := [.fz, .efz, .efz, .efz]
  ps := (.cons I (.cons t33 (.cons (.sl 3 I) (.cons I .nil))))
  rs := (.cons Ty.bool .nil)
  nres := 1
  rsh := [.fz]
  rp := false
  L := []
  mv := []
  eqs := []
  strs := []
noncomputable def f69 (K : Nat) (x : DL d69.ps) : Option (DL d69.rs) := Ev.run T [(71, d71.spec f71), (70, d70.spec f70)] Go.Proofs.Try.f69 d69 K x
-- minecontrol/heads.Sure
def d28 : FDef where
  ms := [.fz, .fz, .fz]
  ps := (.cons t33 (.cons (.sl 3 I) (.cons I .nil)))
  rs := (.cons (.sl 3 I) .nil)
  nres := 1
  rsh := [(.own .fz)]
  rp := false
  L := []
  mv := []
  eqs := []
  strs := []
noncomputable def f28 (K : Nat) (x : DL d28.ps) : Option (DL d28.rs) := Ev.run T [(68, d68.spec f68), (69, d69.spec f69), (67, d67.spec f67)] Go.Proofs.Try.f28 d28 K x
-- minecontrol/lists.In
def d93 : FDef where
  ms := [.fz, .fz, .fz]
  ps := (.cons I (.cons I (.cons I .nil)))
  rs := (.cons Ty.bool .nil)
  nres := 1
  rsh := [.fz]
  rp := false
  L := []
  mv := []
  eqs := []
  strs := []
noncomputable def f93 (K : Nat) (x : DL d93.ps) : Option (DL d93.rs) := Ev.run T [] Go.Proofs.Try.f93 d93 K x
-- minecontrol/swaps.Possible$1$1
def d127 : FDef where
  ms := [.fz, .efz, .efz, .efz]
  ps := (.cons t42 (.cons I (.cons I (.cons I .nil))))
  rs := (.cons Ty.bool .nil)
  nres := 1
  rsh := [.fz]
  rp := false
  L := []
  mv := []
  eqs := []
  strs := []
noncomputable def f127 (K : Nat) (x : DL d127.ps) : Option (DL d127.rs) := Ev.run T [(93, d93.spec f93)] Go.Proofs.Try.f127 d127 K x
-- minecontrol/swaps.Possible$1
def d126 : FDef where
  ms := [.fz, .efz, .efz, .efz]
  ps := (.cons I (.cons t33 (.cons I (.cons I .nil))))
  rs := (.cons Ty.bool .nil)
  nres := 1
  rsh := [.fz]
  rp := false
  L := []
  mv := []
  eqs := []
  strs := []
noncomputable def f126 (K : Nat) (x : DL d126.ps) : Option (DL d126.rs) := Ev.run T [(127, d127.spec f127), (70, d70.spec f70)] Go.Proofs.Try.f126 d126 K x
-- minecontrol/swaps.Possible
def d76 : FDef where
  ms := [.fz, .fz, .fz]
  ps := (.cons t33 (.cons I (.cons I .nil)))
  rs := (.cons (.sl 3 I) .nil)
  nres := 1
  rsh := [(.own .fz)]
  rp := false
  L := []
  mv := []
  eqs := []
  strs := []
noncomputable def f76 (K : Nat) (x : DL d76.ps) : Option (DL d76.rs) := Ev.run T [(126, d126.spec f126), (67, d67.spec f67)] Go.Proofs.Try.f76 d76 K x
-- minecontrol/heads.Missing$1
def d75 : FDef where
  ms := [.fz, .efz, .efz, .efz]
  ps := (.cons I (.cons t33 (.cons I (.cons I .nil))))
  rs := (.cons Ty.bool .nil)
  nres := 1
  rsh := [.fz]
  rp := false
  L := []
  mv := []
  eqs := []
  strs := []
noncomputable def f75 (K : Nat) (x : DL d75.ps) : Option (DL d75.rs) := Ev.run T [(76, d76.spec f76)] Go.Proofs.Try.f75 d75 K x
-- minecontrol/heads.Missing
def d32 : FDef where
  ms := [.fz, .fz, .fz]
  ps := (.cons t33 (.cons I (.cons I .nil)))
  rs := (.cons (.sl 3 I) .nil)
  nres := 1
  rsh := [(.own .fz)]
  rp := false
  L := []
  mv := []
  eqs := []
  strs := []
noncomputable def f32 (K : Nat) (x : DL d32.ps) : Option (DL d32.rs) := Ev.run T [(68, d68.spec f68), (75, d75.spec f75), (67, d67.spec f67)] Go.Proofs.Try.f32 d32 K x
-- minecontrol/minecontrollaw27.awake
def d14 : FDef where
  ms := []
  ps := .nil
  rs := (.cons Ty.bool .nil)
  nres := 1
  rsh := [.fz]
  rp := false
  L := []
  mv := []
  eqs := []
  strs := []
noncomputable def f14 (K : Nat) (x : DL d14.ps) : Option (DL d14.rs) := Ev.run T [(24, d24.spec f24), (28, d28.spec f28), (32, d32.spec f32)] Go.Proofs.Try.f14 d14 K x
-- minecontrol/minecontrolmade.Roll
def d15 : FDef where
  ms := [.fz]
  ps := (.cons (.sl 3 I) .nil)
  rs := (.cons t88 .nil)
  nres := 1
  rsh := [(.cons .fz (.cons .fz .nil))]
  rp := true
  L := []
  mv := []
  eqs := []
  strs := []
noncomputable def f15 (K : Nat) (x : DL d15.ps) : Option (DL d15.rs) := Ev.run T [] Go.Proofs.Try.f15 d15 K x
-- minecontrol/minecontrolmade.Mod
def d25 : FDef where
  ms := [.fz, .fz]
  ps := (.cons I (.cons I .nil))
  rs := (.cons I .nil)
  nres := 1
  rsh := [.fz]
  rp := false
  L := []
  mv := []
  eqs := []
  strs := []
noncomputable def f25 (K : Nat) (x : DL d25.ps) : Option (DL d25.rs) := Ev.run T [] Go.Proofs.Try.f25 d25 K x
-- (*minecontrol/minecontrolmade.Dice).Next
def d19 : FDef where
  ms := [(.mut (.cons .fz (.cons .fz .nil))), .fz]
  ps := (.cons t88 (.cons I .nil))
  rs := (.cons I (.cons t88 .nil))
  nres := 1
  rsh := [.fz, (.cons .fz (.cons .fz .nil))]
  rp := false
  L := []
  mv := []
  eqs := []
  strs := []
noncomputable def f19 (K : Nat) (x : DL d19.ps) : Option (DL d19.rs) := Ev.run T [(25, d25.spec f25)] Go.Proofs.Try.f19 d19 K x
-- (*minecontrol/minecontrolmade.Dice).One
def d22 : FDef where
  ms := [(.mut (.cons .fz (.cons .fz .nil))), .fz]
  ps := (.cons t88 (.cons I .nil))
  rs := (.cons Ty.bool (.cons t88 .nil))
  nres := 1
  rsh := [.fz, (.cons .fz (.cons .fz .nil))]
  rp := false
  L := []
  mv := []
  eqs := []
  strs := []
noncomputable def f22 (K : Nat) (x : DL d22.ps) : Option (DL d22.rs) := Ev.run T [(19, d19.spec f19)] Go.Proofs.Try.f22 d22 K x
-- (*minecontrol/minecontrolmade.Dice).Of
def d35 : FDef where
  ms := [(.mut (.cons .fz (.cons .fz .nil))), .fz]
  ps := (.cons t88 (.cons (.sl 3 I) .nil))
  rs := (.cons I (.cons t88 .nil))
  nres := 1
  rsh := [.fz, (.cons .fz (.cons .fz .nil))]
  rp := false
  L := []
  mv := []
  eqs := []
  strs := []
noncomputable def f35 (K : Nat) (x : DL d35.ps) : Option (DL d35.rs) := Ev.run T [(19, d19.spec f19)] Go.Proofs.Try.f35 d35 K x
-- (*minecontrol/minecontrolmade.Dice).Mine
def d16 : FDef where
  ms := [(.mut (.cons .fz (.cons .fz .nil)))]
  ps := (.cons t88 .nil)
  rs := (.cons t29 (.cons t88 .nil))
  nres := 1
  rsh := [(.cons (.own .fz) (.cons (.own .fz) .nil)), (.cons .fz (.cons .fz .nil))]
  rp := false
  L := [(6, [.box 0 t88 (.cons .fz (.cons .fz .nil)), .box 2 t29 (.cons (.own .fz) (.cons (.own .fz) .nil)), .box 3 t29 (.cons (.own .fz) (.cons (.own .fz) .nil)), .val 4 I .fz, .val 5 I .fz]), (11, [.box 0 t88 (.cons .fz (.cons .fz .nil)), .box 2 t29 (.cons (.own .fz) (.cons (.own .fz) .nil)), .box 3 t29 (.cons (.own .fz) (.cons (.own .fz) .nil)), .val 4 I .fz, .box 6 t92 (.cons .fz (.cons .fz (.cons .fz (.cons .fz (.cons .fz (.cons .fz (.cons (.cons .fz (.cons .fz .nil)) (.cons (.cons .fz (.cons .fz .nil)) .nil)))))))), .val 7 I .fz]), (17, [.box 0 t88 (.cons .fz (.cons .fz .nil)), .box 2 t29 (.cons (.own .fz) (.cons (.own .fz) .nil)), .box 3 t29 (.cons (.own .fz) (.cons (.own .fz) .nil)), .val 4 I .fz, .box 6 t92 (.cons .fz (.cons .fz (.cons .fz (.cons .fz (.cons .fz (.cons .fz (.cons (.cons .fz (.cons .fz .nil)) (.cons (.cons .fz (.cons .fz .nil)) .nil)))))))), .val 9 I .fz])]
  mv := [123]
  eqs := []
  strs := []
noncomputable def f16 (K : Nat) (x : DL d16.ps) : Option (DL d16.rs) := Ev.run T [(19, d19.spec f19), (22, d22.spec f22), (35, d35.spec f35)] Go.Proofs.Try.f16 d16 K x
noncomputable def l16_6 (K k1 : Nat) (x : DL (kTys (d16.keeps 6))) : Option (DL d16.rs) := Ev.loop T [(19, d19.spec f19), (22, d22.spec f22), (35, d35.spec f35)] Go.Proofs.Try.f16 d16 K 6 [k1] (dfltL _) x
noncomputable def l16_11 (K k1 : Nat) (x : DL (kTys (d16.keeps 11))) : Option (DL d16.rs) := Ev.loop T [(19, d19.spec f19), (22, d22.spec f22), (35, d35.spec f35)] Go.Proofs.Try.f16 d16 K 11 [k1] (dfltL _) x
noncomputable def l16_17 (K k1 : Nat) (x : DL (kTys (d16.keeps 17))) : Option (DL d16.rs) := Ev.loop T [(19, d19.spec f19), (22, d22.spec f22), (35, d35.spec f35)] Go.Proofs.Try.f16 d16 K 17 [k1] (dfltL _) x
-- (*minecontrol/minecontrolmade.Dice).Some
def d20 : FDef where
  ms := [(.mut (.cons .fz (.cons .fz .nil))), .fz]
  ps := (.cons t88 (.cons I .nil))
  rs := (.cons (.sl 3 I) (.cons t88 .nil))
  nres := 1
  rsh := [(.own .fz), (.cons .fz (.cons .fz .nil))]
  rp := false
  L := [(3, [.box 0 t88 (.cons .fz (.cons .fz .nil)), .val 1 I .fz, .val 5 (.sl 3 I) (.own .fz), .val 6 I .fz])]
  mv := [19]
  eqs := []
  strs := []
noncomputable def f20 (K : Nat) (x : DL d20.ps) : Option (DL d20.rs) := Ev.run T [(19, d19.spec f19)] Go.Proofs.Try.f20 d20 K x
noncomputable def l20_3 (K k1 : Nat) (x : DL (kTys (d20.keeps 3))) : Option (DL d20.rs) := Ev.loop T [(19, d19.spec f19)] Go.Proofs.Try.f20 d20 K 3 [k1] (dfltL _) x
-- minecontrol/minecontrolref01.Span
def d143 : FDef where
  ms := [.fz, .fz, .fz]
  ps := (.cons t47 (.cons I (.cons I .nil)))
  rs := (.cons Ty.bool .nil)
  nres := 1
  rsh := [.fz]
  rp := false
  L := []
  mv := []
  eqs := []
  strs := []
noncomputable def f143 (K : Nat) (x : DL d143.ps) : Option (DL d143.rs) := Ev.run T [] Go.Proofs.Try.f143 d143 K x
-- minecontrol/minecontrolref01.Check
def d110 : FDef where
  ms := [.fz]
  ps := (.cons t29 .nil)
  rs := (.cons I .nil)
  nres := 1
  rsh := [.fz]
  rp := false
  L := [(4, [.box 1 t29 .fz, .val 3 I .fz]), (10, [.box 1 t29 .fz, .val 5 I .fz])]
  mv := []
  eqs := []
  strs := []
noncomputable def f110 (K : Nat) (x : DL d110.ps) : Option (DL d110.rs) := Ev.run T [(143, d143.spec f143)] Go.Proofs.Try.f110 d110 K x
noncomputable def l110_4 (K k1 : Nat) (x : DL (kTys (d110.keeps 4))) : Option (DL d110.rs) := Ev.loop T [(143, d143.spec f143)] Go.Proofs.Try.f110 d110 K 4 [k1] (dfltL _) x
noncomputable def l110_10 (K k1 : Nat) (x : DL (kTys (d110.keeps 10))) : Option (DL d110.rs) := Ev.loop T [(143, d143.spec f143)] Go.Proofs.Try.f110 d110 K 10 [k1] (dfltL _) x
-- minecontrol/minecontrolref26.bearer
def d118 : FDef where
  ms := [.fz, .fz]
  ps := (.cons (.sl 3 I) (.cons I .nil))
  rs := (.cons I .nil)
  nres := 1
  rsh := [.fz]
  rp := false
  L := [(2, [.val 0 (.sl 3 I) .fz, .val 1 I .fz, .val 5 I .fz])]
  mv := []
  eqs := []
  strs := []
noncomputable def f118 (K : Nat) (x : DL d118.ps) : Option (DL d118.rs) := Ev.run T [] Go.Proofs.Try.f118 d118 K x
noncomputable def l118_2 (K k1 : Nat) (x : DL (kTys (d118.keeps 2))) : Option (DL d118.rs) := Ev.loop T [] Go.Proofs.Try.f118 d118 K 2 [k1] (dfltL _) x
-- minecontrol/minecontrolref26.proper
def d111 : FDef where
  ms := [.fz]
  ps := (.cons (.sl 3 I) .nil)
  rs := (.cons Ty.bool .nil)
  nres := 1
  rsh := [.fz]
  rp := false
  L := [(2, [.val 0 (.sl 3 I) .fz, .val 3 I .fz])]
  mv := []
  eqs := []
  strs := []
noncomputable def f111 (K : Nat) (x : DL d111.ps) : Option (DL d111.rs) := Ev.run T [(118, d118.spec f118)] Go.Proofs.Try.f111 d111 K x
noncomputable def l111_2 (K k1 : Nat) (x : DL (kTys (d111.keeps 2))) : Option (DL d111.rs) := Ev.loop T [(118, d118.spec f118)] Go.Proofs.Try.f111 d111 K 2 [k1] (dfltL _) x
-- minecontrol/minecontrolref25.inTime
def d144 : FDef where
  ms := [.fz]
  ps := (.cons I .nil)
  rs := (.cons Ty.bool .nil)
  nres := 1
  rsh := [.fz]
  rp := false
  L := []
  mv := []
  eqs := []
  strs := []
noncomputable def f144 (K : Nat) (x : DL d144.ps) : Option (DL d144.rs) := Ev.run T [] Go.Proofs.Try.f144 d144 K x
-- minecontrol/minecontrolref25.never
def d145 : FDef where
  ms := [.fz]
  ps := (.cons I .nil)
  rs := (.cons (.sl 3 I) .nil)
  nres := 1
  rsh := [(.own .fz)]
  rp := false
  L := [(3, [.val 0 I .fz, .val 3 (.sl 3 I) (.own .fz), .val 4 I .fz])]
  mv := [13]
  eqs := []
  strs := []
noncomputable def f145 (K : Nat) (x : DL d145.ps) : Option (DL d145.rs) := Ev.run T [] Go.Proofs.Try.f145 d145 K x
noncomputable def l145_3 (K k1 : Nat) (x : DL (kTys (d145.keeps 3))) : Option (DL d145.rs) := Ev.loop T [] Go.Proofs.Try.f145 d145 K 3 [k1] (dfltL _) x
-- minecontrol/minecontrolref23.Has
def d21 : FDef where
  ms := [.fz, .fz]
  ps := (.cons (.sl 3 I) (.cons I .nil))
  rs := (.cons Ty.bool .nil)
  nres := 1
  rsh := [.fz]
  rp := false
  L := [(2, [.val 0 (.sl 3 I) .fz, .val 1 I .fz, .val 5 I .fz])]
  mv := []
  eqs := []
  strs := []
noncomputable def f21 (K : Nat) (x : DL d21.ps) : Option (DL d21.rs) := Ev.run T [] Go.Proofs.Try.f21 d21 K x
noncomputable def l21_2 (K k1 : Nat) (x : DL (kTys (d21.keeps 2))) : Option (DL d21.rs) := Ev.loop T [] Go.Proofs.Try.f21 d21 K 2 [k1] (dfltL _) x
-- minecontrol/minecontrolref03.ends
def d170 : FDef where
  ms := [.fz, .fz]
  ps := (.cons t92 (.cons Ty.bool .nil))
  rs := (.cons I (.cons I .nil))
  nres := 2
  rsh := [.fz, .fz]
  rp := false
  L := []
  mv := []
  eqs := []
  strs := []
noncomputable def f170 (K : Nat) (x : DL d170.ps) : Option (DL d170.rs) := Ev.run T [] Go.Proofs.Try.f170 d170 K x
-- minecontrol/minecontrolref03.walked
def d154 : FDef where
  ms := [.fz, .fz, .fz, .fz, .fz, .fz]
  ps := (.cons t29 (.cons I (.cons Ty.bool (.cons I (.cons I (.cons I .nil))))))
  rs := (.cons I .nil)
  nres := 1
  rsh := [.fz]
  rp := false
  L := []
  mv := []
  eqs := []
  strs := []
noncomputable def f154 (K : Nat) (x : DL d154.ps) : Option (DL d154.rs) := Ev.run T [(110, d110.spec f110), (170, d170.spec f170)] Go.Proofs.Try.f154 d154 K x
-- minecontrol/minecontrolref03.Time
def d128 : FDef where
  ms := [.fz, .fz, .fz]
  ps := (.cons t29 (.cons I (.cons Ty.bool .nil)))
  rs := (.cons I .nil)
  nres := 1
  rsh := [.fz]
  rp := false
  L := []
  mv := []
  eqs := []
  strs := []
noncomputable def f128 (K : Nat) (x : DL d128.ps) : Option (DL d128.rs) := Ev.run T [(154, d154.spec f154)] Go.Proofs.Try.f128 d128 K x
-- minecontrol/minecontrolref25.lower
def d169 : FDef where
  ms := [(.row .fz), .fz, .fz, .fz, .fz]
  ps := (.cons (.sl 3 I) (.cons I (.cons I (.cons I (.cons I .nil)))))
  rs := (.cons Ty.bool (.cons (.sl 3 I) .nil))
  nres := 1
  rsh := [.fz, (.own .fz)]
  rp := false
  L := []
  mv := []
  eqs := []
  strs := []
noncomputable def f169 (K : Nat) (x : DL d169.ps) : Option (DL d169.rs) := Ev.run T [] Go.Proofs.Try.f169 d169 K x
-- minecontrol/minecontrolref25.close
def d100151 : FDef where
  ms := [.fz, .fz, .fz, .nilp]
  ps := (.cons t29 (.cons (.sl 3 I) (.cons I (.cons (.sl 3 I) .nil))))
  rs := (.cons (.sl 3 I) .nil)
  nres := 1
  rsh := [(.own .fz)]
  rp := false
  L := [(3, [.val 2 I .fz, .val 3 (.sl 3 I) .emp, .box 4 t29 .fz, .val 9 (.sl 3 I) (.own .fz), .val 10 Ty.bool .fz]), (6, [.val 2 I .fz, .val 3 (.sl 3 I) .emp, .box 4 t29 .fz, .val 9 (.sl 3 I) (.own .fz), .val 10 Ty.bool .fz, .val 11 I .fz])]
  mv := [68]
  eqs := []
  strs := []
noncomputable def f100151 (K : Nat) (x : DL d100151.ps) : Option (DL d100151.rs) := Ev.run T [(21, d21.spec f21), (128, d128.spec f128), (169, d169.spec f169)] Go.Proofs.Try.f151 d100151 K x
noncomputable def l100151_3 (K k1 : Nat) (x : DL (kTys (d100151.keeps 3))) : Option (DL d100151.rs) := Ev.loop T [(21, d21.spec f21), (128, d128.spec f128), (169, d169.spec f169)] Go.Proofs.Try.f151 d100151 K 3 [k1] (dfltL _) x
noncomputable def l100151_6 (K k1 k2 : Nat) (x : DL (kTys (d100151.keeps 6))) : Option (DL d100151.rs) := Ev.loop T [(21, d21.spec f21), (128, d128.spec f128), (169, d169.spec f169)] Go.Proofs.Try.f151 d100151 K 6 [k1, k2] (dfltL _) x
-- minecontrol/minecontrolref25.close
def d151 : FDef where
  ms := [.fz, .fz, .fz, .fz]
  ps := (.cons t29 (.cons (.sl 3 I) (.cons I (.cons (.sl 3 I) .nil))))
  rs := (.cons (.sl 3 I) .nil)
  nres := 1
  rsh := [(.own .fz)]
  rp := false
  L := [(3, [.val 2 I .fz, .val 3 (.sl 3 I) .fz, .box 4 t29 .fz, .val 9 (.sl 3 I) (.own .fz), .val 10 Ty.bool .fz]), (6, [.val 2 I .fz, .val 3 (.sl 3 I) .fz, .box 4 t29 .fz, .val 9 (.sl 3 I) (.own .fz), .val 10 Ty.bool .fz, .val 11 I .fz])]
  mv := [68]
  eqs := []
  strs := []
noncomputable def f151 (K : Nat) (x : DL d151.ps) : Option (DL d151.rs) := Ev.run T [(21, d21.spec f21), (128, d128.spec f128), (169, d169.spec f169)] Go.Proofs.Try.f151 d151 K x
noncomputable def l151_3 (K k1 : Nat) (x : DL (kTys (d151.keeps 3))) : Option (DL d151.rs) := Ev.loop T [(21, d21.spec f21), (128, d128.spec f128), (169, d169.spec f169)] Go.Proofs.Try.f151 d151 K 3 [k1] (dfltL _) x
noncomputable def l151_6 (K k1 k2 : Nat) (x : DL (kTys (d151.keeps 6))) : Option (DL d151.rs) := Ev.loop T [(21, d21.spec f21), (128, d128.spec f128), (169, d169.spec f169)] Go.Proofs.Try.f151 d151 K 6 [k1, k2] (dfltL _) x
-- minecontrol/minecontrolref25.Close
def d146 : FDef where
  ms := [.fz, .fz, .fz]
  ps := (.cons t29 (.cons (.sl 3 I) (.cons I .nil)))
  rs := (.cons (.sl 3 I) .nil)
  nres := 1
  rsh := [(.own .fz)]
  rp := false
  L := []
  mv := []
  eqs := []
  strs := []
noncomputable def f146 (K : Nat) (x : DL d146.ps) : Option (DL d146.rs) := Ev.run T [(151, d100151.spec f100151)] Go.Proofs.Try.f146 d146 K x
-- minecontrol/minecontrolref25.Start
def d112 : FDef where
  ms := [.fz, .fz, .fz]
  ps := (.cons t29 (.cons I (.cons I .nil)))
  rs := (.cons t45 (.cons I .nil))
  nres := 2
  rsh := [(.cons .fz (.cons (.own .fz) .nil)), .fz]
  rp := false
  L := []
  mv := []
  eqs := []
  strs := []
noncomputable def f112 (K : Nat) (x : DL d112.ps) : Option (DL d112.rs) := Ev.run T [(110, d110.spec f110), (144, d144.spec f144), (145, d145.spec f145), (146, d146.spec f146)] Go.Proofs.Try.f112 d112 K x
-- minecontrol/minecontrolref26.Start
def d61 : FDef where
  ms := [.fz, .fz, .fz, .fz]
  ps := (.cons t29 (.cons (.sl 3 I) (.cons (.sl 3 I) (.cons I .nil))))
  rs := (.cons t33 (.cons I .nil))
  nres := 2
  rsh := [(.cons (.own (.cons (.own .fz) (.cons (.own (.cons .fz (.cons (.own .fz) .nil))) .nil))) .nil), .fz]
  rp := false
  L := [(7, [.val 1 (.sl 3 I) .fz, .val 2 (.sl 3 I) .fz, .val 3 I .fz, .box 4 t29 .fz, .box 8 t33 (.cons (.own .fz) .nil), .box 10 t42 (.cons (.own .fz) (.cons (.own (.cons .fz (.cons (.own .fz) .nil))) .nil)), .val 11 I .fz])]
  mv := [64, 68]
  eqs := []
  strs := []
noncomputable def f61 (K : Nat) (x : DL d61.ps) : Option (DL d61.rs) := Ev.run T [(110, d110.spec f110), (111, d111.spec f111), (112, d112.spec f112)] Go.Proofs.Try.f61 d61 K x
noncomputable def l61_7 (K k1 : Nat) (x : DL (kTys (d61.keeps 7))) : Option (DL d61.rs) := Ev.loop T [(110, d110.spec f110), (111, d111.spec f111), (112, d112.spec f112)] Go.Proofs.Try.f61 d61 K 7 [k1] (dfltL _) x
-- minecontrol/minecontrolref25.Copy
def d135 : FDef where
  ms := [.fz]
  ps := (.cons t45 .nil)
  rs := (.cons t45 .nil)
  nres := 1
  rsh := [(.cons .fz (.cons (.own .fz) .nil))]
  rp := false
  L := []
  mv := []
  eqs := []
  strs := []
noncomputable def f135 (K : Nat) (x : DL d135.ps) : Option (DL d135.rs) := Ev.run T [] Go.Proofs.Try.f135 d135 K x
-- minecontrol/minecontrolref26.CopyWorld
def d89 : FDef where
  ms := [.fz]
  ps := (.cons t42 .nil)
  rs := (.cons t42 .nil)
  nres := 1
  rsh := [(.cons (.own .fz) (.cons (.own (.cons .fz (.cons (.own .fz) .nil))) .nil))]
  rp := false
  L := [(3, [.box 1 t42 .fz, .box 2 t42 (.cons (.own .fz) (.cons (.own .fz) .nil)), .box 3 t42 (.cons (.own .fz) (.cons (.own (.cons .fz (.cons (.own .fz) .nil))) .nil)), .val 4 I .fz])]
  mv := [27]
  eqs := []
  strs := []
noncomputable def f89 (K : Nat) (x : DL d89.ps) : Option (DL d89.rs) := Ev.run T [(135, d135.spec f135)] Go.Proofs.Try.f89 d89 K x
noncomputable def l89_3 (K k1 : Nat) (x : DL (kTys (d89.keeps 3))) : Option (DL d89.rs) := Ev.loop T [(135, d135.spec f135)] Go.Proofs.Try.f89 d89 K 3 [k1] (dfltL _) x
-- minecontrol/minecontrolref26.Copy
def d40 : FDef where
  ms := [.fz]
  ps := (.cons t33 .nil)
  rs := (.cons t33 .nil)
  nres := 1
  rsh := [(.cons (.own (.cons (.own .fz) (.cons (.own (.cons .fz (.cons (.own .fz) .nil))) .nil))) .nil)]
  rp := false
  L := [(3, [.box 1 t33 .fz, .box 2 t33 (.cons (.own .fz) .nil), .box 3 t33 (.cons (.own (.cons (.own .fz) (.cons (.own (.cons .fz (.cons (.own .fz) .nil))) .nil))) .nil), .val 4 I .fz])]
  mv := [23]
  eqs := []
  strs := []
noncomputable def f40 (K : Nat) (x : DL d40.ps) : Option (DL d40.rs) := Ev.run T [(89, d89.spec f89)] Go.Proofs.Try.f40 d40 K x
noncomputable def l40_3 (K k1 : Nat) (x : DL (kTys (d40.keeps 3))) : Option (DL d40.rs) := Ev.loop T [(89, d89.spec f89)] Go.Proofs.Try.f40 d40 K 3 [k1] (dfltL _) x
-- minecontrol/minecontrolref26.Less
def d147 : FDef where
  ms := [.fz, .fz]
  ps := (.cons (.sl 3 I) (.cons (.sl 3 I) .nil))
  rs := (.cons Ty.bool .nil)
  nres := 1
  rsh := [.fz]
  rp := false
  L := [(2, [.val 0 (.sl 3 I) .fz, .val 1 (.sl 3 I) .fz, .val 5 I .fz])]
  mv := []
  eqs := []
  strs := []
noncomputable def f147 (K : Nat) (x : DL d147.ps) : Option (DL d147.rs) := Ev.run T [] Go.Proofs.Try.f147 d147 K x
noncomputable def l147_2 (K k1 : Nat) (x : DL (kTys (d147.keeps 2))) : Option (DL d147.rs) := Ev.loop T [] Go.Proofs.Try.f147 d147 K 2 [k1] (dfltL _) x
-- minecontrol/minecontrolref23.SameInts
def d27 : FDef where
  ms := [.fz, .fz]
  ps := (.cons (.sl 3 I) (.cons (.sl 3 I) .nil))
  rs := (.cons Ty.bool .nil)
  nres := 1
  rsh := [.fz]
  rp := false
  L := [(4, [.val 0 (.sl 3 I) .fz, .val 1 (.sl 3 I) .fz, .val 5 I .fz])]
  mv := []
  eqs := []
  strs := []
noncomputable def f27 (K : Nat) (x : DL d27.ps) : Option (DL d27.rs) := Ev.run T [] Go.Proofs.Try.f27 d27 K x
noncomputable def l27_4 (K k1 : Nat) (x : DL (kTys (d27.keeps 4))) : Option (DL d27.rs) := Ev.loop T [] Go.Proofs.Try.f27 d27 K 4 [k1] (dfltL _) x
-- minecontrol/minecontrolref25.Plain
def d168 : FDef where
  ms := [.fz, .fz]
  ps := (.cons t45 (.cons I .nil))
  rs := (.cons Ty.bool .nil)
  nres := 1
  rsh := [.fz]
  rp := false
  L := [(4, [.box 2 t45 .fz, .val 5 I .fz])]
  mv := []
  eqs := []
  strs := []
noncomputable def f168 (K : Nat) (x : DL d168.ps) : Option (DL d168.rs) := Ev.run T [] Go.Proofs.Try.f168 d168 K x
noncomputable def l168_4 (K k1 : Nat) (x : DL (kTys (d168.keeps 4))) : Option (DL d168.rs) := Ev.loop T [] Go.Proofs.Try.f168 d168 K 4 [k1] (dfltL _) x
-- minecontrol/minecontrolref25.Valid
def d148 : FDef where
  ms := [.fz, .fz]
  ps := (.cons t29 (.cons t45 .nil))
  rs := (.cons Ty.bool .nil)
  nres := 1
  rsh := [.fz]
  rp := false
  L := []
  mv := []
  eqs := []
  strs := []
noncomputable def f148 (K : Nat) (x : DL d148.ps) : Option (DL d148.rs) := Ev.run T [(110, d110.spec f110), (168, d168.spec f168), (146, d146.spec f146), (27, d27.spec f27)] Go.Proofs.Try.f148 d148 K x
-- minecontrol/minecontrolref26.Valid
def d113 : FDef where
  ms := [.fz, .fz]
  ps := (.cons t29 (.cons t33 .nil))
  rs := (.cons Ty.bool .nil)
  nres := 1
  rsh := [.fz]
  rp := false
  L := [(7, [.box 2 t29 .fz, .box 3 t33 .fz, .val 5 (.sl 3 I) .fz, .val 6 I .fz]), (13, [.box 2 t29 .fz, .box 3 t33 .fz, .val 5 (.sl 3 I) .fz, .val 6 I .fz, .box 7 t42 .fz, .val 8 I .fz])]
  mv := []
  eqs := []
  strs := []
noncomputable def f113 (K : Nat) (x : DL d113.ps) : Option (DL d113.rs) := Ev.run T [(110, d110.spec f110), (111, d111.spec f111), (147, d147.spec f147), (118, d118.spec f118), (148, d148.spec f148)] Go.Proofs.Try.f113 d113 K x
noncomputable def l113_7 (K k1 : Nat) (x : DL (kTys (d113.keeps 7))) : Option (DL d113.rs) := Ev.loop T [(110, d110.spec f110), (111, d111.spec f111), (147, d147.spec f147), (118, d118.spec f118), (148, d148.spec f148)] Go.Proofs.Try.f113 d113 K 7 [k1] (dfltL _) x
noncomputable def l113_13 (K k1 k2 : Nat) (x : DL (kTys (d113.keeps 13))) : Option (DL d113.rs) := Ev.loop T [(110, d110.spec f110), (111, d111.spec f111), (147, d147.spec f147), (118, d118.spec f118), (148, d148.spec f148)] Go.Proofs.Try.f113 d113 K 13 [k1, k2] (dfltL _) x
-- minecontrol/minecontrolref26.meet
def d114 : FDef where
  ms := [.fz, .fz, .fz]
  ps := (.cons t45 (.cons t45 (.cons I .nil)))
  rs := (.cons Ty.bool .nil)
  nres := 1
  rsh := [.fz]
  rp := false
  L := [(2, [.val 2 I .fz, .box 3 t45 .fz, .box 4 t45 .fz, .val 7 I .fz])]
  mv := []
  eqs := []
  strs := []
noncomputable def f114 (K : Nat) (x : DL d114.ps) : Option (DL d114.rs) := Ev.run T [] Go.Proofs.Try.f114 d114 K x
noncomputable def l114_2 (K k1 : Nat) (x : DL (kTys (d114.keeps 2))) : Option (DL d114.rs) := Ev.loop T [] Go.Proofs.Try.f114 d114 K 2 [k1] (dfltL _) x
-- minecontrol/minecontrolref25.Raise
def d115 : FDef where
  ms := [.fz, .fz]
  ps := (.cons t45 (.cons I .nil))
  rs := (.cons t45 (.cons I .nil))
  nres := 2
  rsh := [(.cons .fz (.cons (.own .fz) .nil)), .fz]
  rp := false
  L := []
  mv := [16, 19]
  eqs := []
  strs := []
noncomputable def f115 (K : Nat) (x : DL d115.ps) : Option (DL d115.rs) := Ev.run T [(135, d135.spec f135)] Go.Proofs.Try.f115 d115 K x
-- minecontrol/minecontrolref25.Join
def d149 : FDef where
  ms := [.fz, .fz]
  ps := (.cons t45 (.cons t45 .nil))
  rs := (.cons t45 (.cons I .nil))
  nres := 2
  rsh := [(.cons .fz (.cons (.own .fz) .nil)), .fz]
  rp := false
  L := [(5, [.box 2 t45 .fz, .box 3 t45 .fz, .box 4 t45 (.cons .fz (.cons (.own .fz) .nil)), .box 6 t45 (.cons .fz (.cons (.own .fz) .nil)), .val 7 I .fz])]
  mv := [45]
  eqs := []
  strs := []
noncomputable def f149 (K : Nat) (x : DL d149.ps) : Option (DL d149.rs) := Ev.run T [] Go.Proofs.Try.f149 d149 K x
noncomputable def l149_5 (K k1 : Nat) (x : DL (kTys (d149.keeps 5))) : Option (DL d149.rs) := Ev.loop T [] Go.Proofs.Try.f149 d149 K 5 [k1] (dfltL _) x
-- minecontrol/minecontrolref26.Tidy
def d116 : FDef where
  ms := [.fz]
  ps := (.cons (.sl 43 t42) .nil)
  rs := (.cons (.sl 43 t42) .nil)
  nres := 1
  rsh := [(.own (.cons (.own .fz) (.cons (.own (.cons .fz (.cons (.own .fz) .nil))) .nil)))]
  rp := false
  L := [(3, [.val 0 (.sl 43 t42) .fz, .val 3 (.sl 43 t42) (.own (.cons (.own .fz) (.cons (.own (.cons .fz (.cons (.own .fz) .nil))) .nil))), .val 4 I .fz]), (6, [.val 0 (.sl 43 t42) .fz, .val 3 (.sl 43 t42) (.own (.cons (.own .fz) (.cons (.own (.cons .fz (.cons (.own .fz) .nil))) .nil))), .val 4 I .fz, .val 5 I .fz]), (10, [.val 0 (.sl 43 t42) .fz, .val 3 (.sl 43 t42) (.own (.cons (.own .fz) (.cons (.own (.cons .fz (.cons (.own .fz) .nil))) .nil))), .val 4 I .fz, .val 5 I .fz, .val 6 I .fz])]
  mv := [111, 1000098, 1000109, 2000099, 2000106, 2000110]
  eqs := []
  strs := []
noncomputable def f116 (K : Nat) (x : DL d116.ps) : Option (DL d116.rs) := Ev.run T [(147, d147.spec f147), (27, d27.spec f27), (89, d89.spec f89), (149, d149.spec f149)] Go.Proofs.Try.f116 d116 K x
noncomputable def l116_3 (K k1 : Nat) (x : DL (kTys (d116.keeps 3))) : Option (DL d116.rs) := Ev.loop T [(147, d147.spec f147), (27, d27.spec f27), (89, d89.spec f89), (149, d149.spec f149)] Go.Proofs.Try.f116 d116 K 3 [k1] (dfltL _) x
noncomputable def l116_6 (K k1 k2 : Nat) (x : DL (kTys (d116.keeps 6))) : Option (DL d116.rs) := Ev.loop T [(147, d147.spec f147), (27, d27.spec f27), (89, d89.spec f89), (149, d149.spec f149)] Go.Proofs.Try.f116 d116 K 6 [k1, k2] (dfltL _) x
noncomputable def l116_10 (K k1 k2 : Nat) (x : DL (kTys (d116.keeps 10))) : Option (DL d116.rs) := Ev.loop T [(147, d147.spec f147), (27, d27.spec f27), (89, d89.spec f89), (149, d149.spec f149)] Go.Proofs.Try.f116 d116 K 10 [k1, k2] (dfltL _) x
-- minecontrol/minecontrolref26.Exchange
def d62 : FDef where
  ms := [.fz, .fz, .fz, .fz, .fz]
  ps := (.cons t29 (.cons t33 (.cons I (.cons I (.cons I .nil)))))
  rs := (.cons t33 (.cons I .nil))
  nres := 2
  rsh := [(.cons (.own (.cons (.own .fz) (.cons (.own (.cons .fz (.cons (.own .fz) .nil))) .nil))) .nil), .fz]
  rp := false
  L := [(11, [.val 2 I .fz, .val 3 I .fz, .val 4 I .fz, .box 6 t33 (.cons (.own (.cons (.own .fz) (.cons (.own (.cons .fz (.cons (.own .fz) .nil))) .nil))) .nil), .box 10 t33 (.cons (.own .fz) .nil), .val 13 (.sl 43 t42) (.own (.cons (.own .fz) (.cons (.own (.cons .fz (.cons (.own .fz) .nil))) .nil))), .val 14 I .fz])]
  mv := [22, 50, 57, 60, 134, 142, 143]
  eqs := []
  strs := []
noncomputable def f62 (K : Nat) (x : DL d62.ps) : Option (DL d62.rs) := Ev.run T [(40, d40.spec f40), (113, d113.spec f113), (89, d89.spec f89), (114, d114.spec f114), (115, d115.spec f115), (116, d116.spec f116)] Go.Proofs.Try.f62 d62 K x
noncomputable def l62_11 (K k1 : Nat) (x : DL (kTys (d62.keeps 11))) : Option (DL d62.rs) := Ev.loop T [(40, d40.spec f40), (113, d113.spec f113), (89, d89.spec f89), (114, d114.spec f114), (115, d115.spec f115), (116, d116.spec f116)] Go.Proofs.Try.f62 d62 K 11 [k1] (dfltL _) x
-- minecontrol/minecontrolref26.borne
def d117 : FDef where
  ms := [.fz, .fz, .fz]
  ps := (.cons t29 (.cons t33 (.cons I .nil)))
  rs := (.cons I .nil)
  nres := 1
  rsh := [.fz]
  rp := false
  L := []
  mv := []
  eqs := []
  strs := []
noncomputable def f117 (K : Nat) (x : DL d117.ps) : Option (DL d117.rs) := Ev.run T [(113, d113.spec f113), (118, d118.spec f118)] Go.Proofs.Try.f117 d117 K x
-- minecontrol/minecontrolref23.Set
def d136 : FDef where
  ms := [.fz, .fz]
  ps := (.cons (.sl 3 I) (.cons I .nil))
  rs := (.cons Ty.bool .nil)
  nres := 1
  rsh := [.fz]
  rp := false
  L := [(2, [.val 0 (.sl 3 I) .fz, .val 1 I .fz, .val 5 I .fz])]
  mv := []
  eqs := []
  strs := []
noncomputable def f136 (K : Nat) (x : DL d136.ps) : Option (DL d136.rs) := Ev.run T [] Go.Proofs.Try.f136 d136 K x
noncomputable def l136_2 (K k1 : Nat) (x : DL (kTys (d136.keeps 2))) : Option (DL d136.rs) := Ev.loop T [] Go.Proofs.Try.f136 d136 K 2 [k1] (dfltL _) x
-- minecontrol/minecontrolref25.asked
def d150 : FDef where
  ms := [.fz, .fz, .fz, .fz, .fz]
  ps := (.cons t29 (.cons t45 (.cons (.sl 3 I) (.cons I (.cons I .nil)))))
  rs := (.cons I .nil)
  nres := 1
  rsh := [.fz]
  rp := false
  L := []
  mv := []
  eqs := []
  strs := []
noncomputable def f150 (K : Nat) (x : DL d150.ps) : Option (DL d150.rs) := Ev.run T [(148, d148.spec f148), (136, d136.spec f136), (144, d144.spec f144)] Go.Proofs.Try.f150 d150 K x
-- minecontrol/minecontrolref25.See
def d119 : FDef where
  ms := [.fz, .fz, .fz, .fz, .fz]
  ps := (.cons t29 (.cons t45 (.cons (.sl 3 I) (.cons I (.cons I .nil)))))
  rs := (.cons t45 (.cons I .nil))
  nres := 2
  rsh := [(.cons .fz (.cons (.own .fz) .nil)), .fz]
  rp := false
  L := [(9, [.val 2 (.sl 3 I) .fz, .val 3 I .fz, .val 4 I .fz, .box 5 t29 .fz, .box 6 t45 .fz, .box 10 t45 (.cons .fz (.cons (.own .fz) .nil)), .val 13 (.sl 3 I) (.own .fz), .val 14 Ty.bool .fz, .val 15 I .fz])]
  mv := []
  eqs := []
  strs := []
noncomputable def f119 (K : Nat) (x : DL d119.ps) : Option (DL d119.rs) := Ev.run T [(150, d150.spec f150), (135, d135.spec f135), (145, d145.spec f145), (146, d146.spec f146)] Go.Proofs.Try.f119 d119 K x
noncomputable def l119_9 (K k1 : Nat) (x : DL (kTys (d119.keeps 9))) : Option (DL d119.rs) := Ev.loop T [(150, d150.spec f150), (135, d135.spec f135), (145, d145.spec f145), (146, d146.spec f146)] Go.Proofs.Try.f119 d119 K 9 [k1] (dfltL _) x
-- minecontrol/minecontrolref26.See
def d63 : FDef where
  ms := [.fz, .fz, .fz, .fz, .fz, .fz]
  ps := (.cons t29 (.cons t33 (.cons I (.cons (.sl 3 I) (.cons I (.cons I .nil))))))
  rs := (.cons t33 (.cons I .nil))
  nres := 2
  rsh := [(.cons (.own (.cons (.own .fz) (.cons (.own (.cons .fz (.cons (.own .fz) .nil))) .nil))) .nil), .fz]
  rp := false
  L := [(7, [.val 2 I .fz, .val 3 (.sl 3 I) .fz, .val 4 I .fz, .val 5 I .fz, .box 6 t29 .fz, .box 7 t33 (.cons (.own (.cons (.own .fz) (.cons (.own (.cons .fz (.cons (.own .fz) .nil))) .nil))) .nil), .box 12 t33 (.cons (.own .fz) .nil), .box 15 t33 (.cons (.own (.cons (.own .fz) (.cons (.own (.cons .fz (.cons (.own .fz) .nil))) .nil))) .nil), .val 16 I .fz])]
  mv := [29, 65, 74, 78, 86, 87]
  eqs := []
  strs := []
noncomputable def f63 (K : Nat) (x : DL d63.ps) : Option (DL d63.rs) := Ev.run T [(40, d40.spec f40), (117, d117.spec f117), (89, d89.spec f89), (118, d118.spec f118), (119, d119.spec f119)] Go.Proofs.Try.f63 d63 K x
noncomputable def l63_7 (K k1 : Nat) (x : DL (kTys (d63.keeps 7))) : Option (DL d63.rs) := Ev.loop T [(40, d40.spec f40), (117, d117.spec f117), (89, d89.spec f89), (118, d118.spec f118), (119, d119.spec f119)] Go.Proofs.Try.f63 d63 K 7 [k1] (dfltL _) x
-- minecontrol/minecontrolref25.Absent
def d120 : FDef where
  ms := [.fz, .fz, .fz, .fz, .fz, .fz]
  ps := (.cons t29 (.cons t45 (.cons (.sl 3 I) (.cons I (.cons I (.cons I .nil))))))
  rs := (.cons t45 (.cons I .nil))
  nres := 2
  rsh := [(.cons .fz (.cons (.own .fz) .nil)), .fz]
  rp := false
  L := [(12, [.val 2 (.sl 3 I) .fz, .val 4 I .fz, .val 5 I .fz, .box 6 t29 .fz, .box 12 t45 (.cons .fz (.cons (.own .fz) .nil)), .val 15 (.sl 3 I) (.own .fz), .val 16 I .fz])]
  mv := []
  eqs := []
  strs := []
noncomputable def f120 (K : Nat) (x : DL d120.ps) : Option (DL d120.rs) := Ev.run T [(150, d150.spec f150), (135, d135.spec f135), (144, d144.spec f144), (151, d151.spec f151), (146, d146.spec f146)] Go.Proofs.Try.f120 d120 K x
noncomputable def l120_12 (K k1 : Nat) (x : DL (kTys (d120.keeps 12))) : Option (DL d120.rs) := Ev.loop T [(150, d150.spec f150), (135, d135.spec f135), (144, d144.spec f144), (151, d151.spec f151), (146, d146.spec f146)] Go.Proofs.Try.f120 d120 K 12 [k1] (dfltL _) x
-- minecontrol/minecontrolref26.Absent
def d64 : FDef where
  ms := [.fz, .fz, .fz, .fz, .fz, .fz, .fz]
  ps := (.cons t29 (.cons t33 (.cons I (.cons (.sl 3 I) (.cons I (.cons I (.cons I .nil)))))))
  rs := (.cons t33 (.cons I .nil))
  nres := 2
  rsh := [(.cons (.own (.cons (.own .fz) (.cons (.own (.cons .fz (.cons (.own .fz) .nil))) .nil))) .nil), .fz]
  rp := false
  L := [(7, [.val 2 I .fz, .val 3 (.sl 3 I) .fz, .val 4 I .fz, .val 5 I .fz, .val 6 I .fz, .box 7 t29 .fz, .box 8 t33 (.cons (.own (.cons (.own .fz) (.cons (.own (.cons .fz (.cons (.own .fz) .nil))) .nil))) .nil), .box 14 t33 (.cons (.own .fz) .nil), .box 17 t33 (.cons (.own (.cons (.own .fz) (.cons (.own (.cons .fz (.cons (.own .fz) .nil))) .nil))) .nil), .val 18 I .fz])]
  mv := [31, 70, 77, 81, 85]
  eqs := []
  strs := []
noncomputable def f64 (K : Nat) (x : DL d64.ps) : Option (DL d64.rs) := Ev.run T [(40, d40.spec f40), (117, d117.spec f117), (89, d89.spec f89), (118, d118.spec f118), (120, d120.spec f120)] Go.Proofs.Try.f64 d64 K x
noncomputable def l64_7 (K k1 : Nat) (x : DL (kTys (d64.keeps 7))) : Option (DL d64.rs) := Ev.loop T [(40, d40.spec f40), (117, d117.spec f117), (89, d89.spec f89), (118, d118.spec f118), (120, d120.spec f120)] Go.Proofs.Try.f64 d64 K 7 [k1] (dfltL _) x
-- (*minecontrol/minecontrolmade.Dice).Belief
def d17 : FDef where
  ms := [(.mut (.cons .fz (.cons .fz .nil))), .fz]
  ps := (.cons t88 (.cons t29 .nil))
  rs := (.cons t33 (.cons t88 .nil))
  nres := 1
  rsh := [(.cons (.own (.cons (.own .fz) (.cons (.own (.cons .fz (.cons (.own .fz) .nil))) .nil))) .nil), (.cons .fz (.cons .fz .nil))]
  rp := false
  L := [(4, [.box 0 t88 (.cons .fz (.cons .fz .nil)), .box 3 t29 .fz, .box 4 t33 (.cons (.own .fz) .nil), .val 5 I .fz, .val 6 (.sl 3 I) (.own .fz), .val 7 (.sl 3 I) (.own .fz), .val 8 I .fz]), (10, [.box 0 t88 (.cons .fz (.cons .fz .nil)), .box 3 t29 .fz, .box 4 t33 (.cons (.own .fz) .nil), .val 5 I .fz, .box 9 t33 (.cons (.own (.cons (.own .fz) (.cons (.own (.cons .fz (.cons (.own .fz) .nil))) .nil))) .nil), .val 11 I .fz, .val 12 I .fz])]
  mv := [85, 103, 129, 130]
  eqs := []
  strs := []
noncomputable def f17 (K : Nat) (x : DL d17.ps) : Option (DL d17.rs) := Ev.run T [(19, d19.spec f19), (61, d61.spec f61), (62, d62.spec f62), (20, d20.spec f20), (63, d63.spec f63), (64, d64.spec f64)] Go.Proofs.Try.f17 d17 K x
noncomputable def l17_4 (K k1 : Nat) (x : DL (kTys (d17.keeps 4))) : Option (DL d17.rs) := Ev.loop T [(19, d19.spec f19), (61, d61.spec f61), (62, d62.spec f62), (20, d20.spec f20), (63, d63.spec f63), (64, d64.spec f64)] Go.Proofs.Try.f17 d17 K 4 [k1] (dfltL _) x
noncomputable def l17_10 (K k1 : Nat) (x : DL (kTys (d17.keeps 10))) : Option (DL d17.rs) := Ev.loop T [(19, d19.spec f19), (61, d61.spec f61), (62, d62.spec f62), (20, d20.spec f20), (63, d63.spec f63), (64, d64.spec f64)] Go.Proofs.Try.f17 d17 K 10 [k1] (dfltL _) x
-- minecontrol/minecontrolmade.Last
def d18 : FDef where
  ms := [.fz]
  ps := (.cons t33 .nil)
  rs := (.cons I .nil)
  nres := 1
  rsh := [.fz]
  rp := false
  L := [(3, [.box 1 t33 .fz, .val 3 I .fz, .val 4 I .fz]), (6, [.box 1 t33 .fz, .val 3 I .fz, .val 4 I .fz, .val 5 I .fz])]
  mv := []
  eqs := []
  strs := []
noncomputable def f18 (K : Nat) (x : DL d18.ps) : Option (DL d18.rs) := Ev.run T [] Go.Proofs.Try.f18 d18 K x
noncomputable def l18_3 (K k1 : Nat) (x : DL (kTys (d18.keeps 3))) : Option (DL d18.rs) := Ev.loop T [] Go.Proofs.Try.f18 d18 K 3 [k1] (dfltL _) x
noncomputable def l18_6 (K k1 k2 : Nat) (x : DL (kTys (d18.keeps 6))) : Option (DL d18.rs) := Ev.loop T [] Go.Proofs.Try.f18 d18 K 6 [k1, k2] (dfltL _) x
-- minecontrol/minecontrolref25.Possible
def d23 : FDef where
  ms := [.fz, .fz]
  ps := (.cons t45 (.cons I .nil))
  rs := (.cons (.sl 3 I) .nil)
  nres := 1
  rsh := [(.own .fz)]
  rp := false
  L := [(3, [.val 1 I .fz, .box 2 t45 .fz, .val 5 (.sl 3 I) (.own .fz), .val 6 I .fz])]
  mv := [25]
  eqs := []
  strs := []
noncomputable def f23 (K : Nat) (x : DL d23.ps) : Option (DL d23.rs) := Ev.run T [] Go.Proofs.Try.f23 d23 K x
noncomputable def l23_3 (K k1 : Nat) (x : DL (kTys (d23.keeps 3))) : Option (DL d23.rs) := Ev.loop T [] Go.Proofs.Try.f23 d23 K 3 [k1] (dfltL _) x
-- minecontrol/minecontrollaw27.HeadsMore
def d3 : FDef where
  ms := [.fz]
  ps := (.cons (.sl 3 I) .nil)
  rs := (.cons Ty.bool .nil)
  nres := 1
  rsh := [.fz]
  rp := false
  L := [(10, [.box 3 t88 (.cons .fz (.cons .fz .nil)), .box 4 t29 .fz, .box 5 t33 (.cons (.own (.cons (.own .fz) (.cons (.own (.cons .fz (.cons (.own .fz) .nil))) .nil))) .nil), .val 6 I .fz, .val 7 (.sl 3 I) (.own .fz), .val 8 (.sl 3 I) (.own .fz), .val 9 (.sl 3 I) (.own .fz), .val 10 I .fz]), (16, [.box 5 t33 (.cons (.own (.cons (.own .fz) (.cons (.own (.cons .fz (.cons (.own .fz) .nil))) .nil))) .nil), .val 6 I .fz, .val 7 (.sl 3 I) (.own .fz), .val 8 (.sl 3 I) (.own .fz), .val 9 (.sl 3 I) (.own .fz), .val 11 I .fz]), (19, [.box 5 t33 (.cons (.own (.cons (.own .fz) (.cons (.own (.cons .fz (.cons (.own .fz) .nil))) .nil))) .nil), .val 6 I .fz, .val 7 (.sl 3 I) (.own .fz), .val 8 (.sl 3 I) (.own .fz), .val 9 (.sl 3 I) (.own .fz), .val 11 I .fz, .val 12 I .fz])]
  mv := []
  eqs := []
  strs := []
noncomputable def f3 (K : Nat) (x : DL d3.ps) : Option (DL d3.rs) := Ev.run T [(13, d13.spec f13), (14, d14.spec f14), (15, d15.spec f15), (16, d16.spec f16), (17, d17.spec f17), (18, d18.spec f18), (19, d19.spec f19), (20, d20.spec f20), (21, d21.spec f21), (22, d22.spec f22), (23, d23.spec f23), (24, d24.spec f24)] Go.Proofs.Try.f3 d3 K x
noncomputable def l3_10 (K k1 : Nat) (x : DL (kTys (d3.keeps 10))) : Option (DL d3.rs) := Ev.loop T [(13, d13.spec f13), (14, d14.spec f14), (15, d15.spec f15), (16, d16.spec f16), (17, d17.spec f17), (18, d18.spec f18), (19, d19.spec f19), (20, d20.spec f20), (21, d21.spec f21), (22, d22.spec f22), (23, d23.spec f23), (24, d24.spec f24)] Go.Proofs.Try.f3 d3 K 10 [k1] (dfltL _) x
noncomputable def l3_16 (K k1 : Nat) (x : DL (kTys (d3.keeps 16))) : Option (DL d3.rs) := Ev.loop T [(13, d13.spec f13), (14, d14.spec f14), (15, d15.spec f15), (16, d16.spec f16), (17, d17.spec f17), (18, d18.spec f18), (19, d19.spec f19), (20, d20.spec f20), (21, d21.spec f21), (22, d22.spec f22), (23, d23.spec f23), (24, d24.spec f24)] Go.Proofs.Try.f3 d3 K 16 [k1] (dfltL _) x
noncomputable def l3_19 (K k1 k2 : Nat) (x : DL (kTys (d3.keeps 19))) : Option (DL d3.rs) := Ev.loop T [(13, d13.spec f13), (14, d14.spec f14), (15, d15.spec f15), (16, d16.spec f16), (17, d17.spec f17), (18, d18.spec f18), (19, d19.spec f19), (20, d20.spec f20), (21, d21.spec f21), (22, d22.spec f22), (23, d23.spec f23), (24, d24.spec f24)] Go.Proofs.Try.f3 d3 K 19 [k1, k2] (dfltL _) x
-- minecontrol/minecontrollaw27.HeadsSplit
def d4 : FDef where
  ms := [.fz]
  ps := (.cons (.sl 3 I) .nil)
  rs := (.cons Ty.bool .nil)
  nres := 1
  rsh := [.fz]
  rp := false
  L := [(9, [.box 3 t88 (.cons .fz (.cons .fz .nil)), .box 4 t29 .fz, .box 5 t33 (.cons (.own (.cons (.own .fz) (.cons (.own (.cons .fz (.cons (.own .fz) .nil))) .nil))) .nil), .val 6 I .fz, .val 7 (.sl 3 I) (.own .fz), .val 8 (.sl 3 I) (.own .fz), .val 9 (.sl 3 I) (.own .fz), .val 10 I .fz])]
  mv := []
  eqs := []
  strs := []
noncomputable def f4 (K : Nat) (x : DL d4.ps) : Option (DL d4.rs) := Ev.run T [(13, d13.spec f13), (14, d14.spec f14), (15, d15.spec f15), (16, d16.spec f16), (17, d17.spec f17), (18, d18.spec f18), (19, d19.spec f19), (24, d24.spec f24)] Go.Proofs.Try.f4 d4 K x
noncomputable def l4_9 (K k1 : Nat) (x : DL (kTys (d4.keeps 9))) : Option (DL d4.rs) := Ev.loop T [(13, d13.spec f13), (14, d14.spec f14), (15, d15.spec f15), (16, d16.spec f16), (17, d17.spec f17), (18, d18.spec f18), (19, d19.spec f19), (24, d24.spec f24)] Go.Proofs.Try.f4 d4 K 9 [k1] (dfltL _) x
-- minecontrol/minecontrolref27.state
def d66 : FDef where
  ms := [.fz, .fz, .fz]
  ps := (.cons t45 (.cons (.sl 3 I) (.cons I .nil)))
  rs := (.cons I .nil)
  nres := 1
  rsh := [.fz]
  rp := false
  L := [(4, [.val 1 (.sl 3 I) .fz, .val 7 (.sl 3 I) (.own .fz), .val 8 Ty.bool .fz, .val 9 Ty.bool .fz, .val 10 I .fz])]
  mv := []
  eqs := []
  strs := []
noncomputable def f66 (K : Nat) (x : DL d66.ps) : Option (DL d66.rs) := Ev.run T [(23, d23.spec f23), (21, d21.spec f21)] Go.Proofs.Try.f66 d66 K x
noncomputable def l66_4 (K k1 : Nat) (x : DL (kTys (d66.keeps 4))) : Option (DL d66.rs) := Ev.loop T [(23, d23.spec f23), (21, d21.spec f21)] Go.Proofs.Try.f66 d66 K 4 [k1] (dfltL _) x
-- minecontrol/minecontrolref27.Count
def d26 : FDef where
  ms := [.fz, .fz, .fz]
  ps := (.cons t33 (.cons (.sl 3 I) (.cons I .nil)))
  rs := (.cons t47 .nil)
  nres := 1
  rsh := [.fz]
  rp := false
  L := [(3, [.val 1 (.sl 3 I) .fz, .val 2 I .fz, .box 3 t33 .fz, .box 6 t47 (.cons .fz (.cons .fz .nil)), .box 7 t47 (.cons .fz (.cons .fz .nil)), .val 8 I .fz]), (7, [.val 1 (.sl 3 I) .fz, .val 2 I .fz, .box 3 t33 .fz, .box 6 t47 (.cons .fz (.cons .fz .nil)), .box 7 t47 (.cons .fz (.cons .fz .nil)), .val 8 I .fz, .val 9 I .fz, .val 10 I .fz, .val 11 I .fz])]
  mv := []
  eqs := []
  strs := []
noncomputable def f26 (K : Nat) (x : DL d26.ps) : Option (DL d26.rs) := Ev.run T [(66, d66.spec f66)] Go.Proofs.Try.f26 d26 K x
noncomputable def l26_3 (K k1 : Nat) (x : DL (kTys (d26.keeps 3))) : Option (DL d26.rs) := Ev.loop T [(66, d66.spec f66)] Go.Proofs.Try.f26 d26 K 3 [k1] (dfltL _) x
noncomputable def l26_7 (K k1 k2 : Nat) (x : DL (kTys (d26.keeps 7))) : Option (DL d26.rs) := Ev.loop T [(66, d66.spec f66)] Go.Proofs.Try.f26 d26 K 7 [k1, k2] (dfltL _) x
-- minecontrol/minecontrolref27.people
def d72 : FDef where
  ms := [.fz]
  ps := (.cons t33 .nil)
  rs := (.cons I .nil)
  nres := 1
  rsh := [.fz]
  rp := false
  L := []
  mv := []
  eqs := []
  strs := []
noncomputable def f72 (K : Nat) (x : DL d72.ps) : Option (DL d72.rs) := Ev.run T [] Go.Proofs.Try.f72 d72 K x
-- minecontrol/minecontrolref27.Sure
def d29 : FDef where
  ms := [.fz, .fz, .fz]
  ps := (.cons t33 (.cons (.sl 3 I) (.cons I .nil)))
  rs := (.cons (.sl 3 I) .nil)
  nres := 1
  rsh := [(.own .fz)]
  rp := false
  L := [(3, [.val 1 (.sl 3 I) .fz, .val 2 I .fz, .box 3 t33 .fz, .val 7 (.sl 3 I) (.own .fz), .val 8 I .fz]), (7, [.val 1 (.sl 3 I) .fz, .val 2 I .fz, .box 3 t33 .fz, .val 7 (.sl 3 I) (.own .fz), .val 8 I .fz, .val 9 Ty.bool .fz, .val 10 I .fz])]
  mv := [45]
  eqs := []
  strs := []
noncomputable def f29 (K : Nat) (x : DL d29.ps) : Option (DL d29.rs) := Ev.run T [(72, d72.spec f72), (66, d66.spec f66)] Go.Proofs.Try.f29 d29 K x
noncomputable def l29_3 (K k1 : Nat) (x : DL (kTys (d29.keeps 3))) : Option (DL d29.rs) := Ev.loop T [(72, d72.spec f72), (66, d66.spec f66)] Go.Proofs.Try.f29 d29 K 3 [k1] (dfltL _) x
noncomputable def l29_7 (K k1 k2 : Nat) (x : DL (kTys (d29.keeps 7))) : Option (DL d29.rs) := Ev.loop T [(72, d72.spec f72), (66, d66.spec f66)] Go.Proofs.Try.f29 d29 K 7 [k1, k2] (dfltL _) x
-- minecontrol/heads.Maybe$1$1
def d74 : FDef where
  ms := [.fz, .efz, .efz, .efz]
  ps := (.cons t42 (.cons I (.cons (.sl 3 I) (.cons I .nil))))
  rs := (.cons Ty.bool .nil)
  nres := 1
  rsh := [.fz]
  rp := false
  L := []
  mv := []
  eqs := []
  strs := []
noncomputable def f74 (K : Nat) (x : DL d74.ps) : Option (DL d74.rs) := Ev.run T [(65, d65.spec f65)] Go.Proofs.Try.f74 d74 K x
-- minecontrol/heads.Maybe$1
def d73 : FDef where
  ms := [.fz, .efz, .efz, .efz]
  ps := (.cons I (.cons t33 (.cons (.sl 3 I) (.cons I .nil))))
  rs := (.cons Ty.bool .nil)
  nres := 1
  rsh := [.fz]
  rp := false
  L := []
  mv := []
  eqs := []
  strs := []
noncomputable def f73 (K : Nat) (x : DL d73.ps) : Option (DL d73.rs) := Ev.run T [(74, d74.spec f74), (70, d70.spec f70)] Go.Proofs.Try.f73 d73 K x
-- minecontrol/heads.Maybe
def d30 : FDef where
  ms := [.fz, .fz, .fz]
  ps := (.cons t33 (.cons (.sl 3 I) (.cons I .nil)))
  rs := (.cons (.sl 3 I) .nil)
  nres := 1
  rsh := [(.own .fz)]
  rp := false
  L := []
  mv := []
  eqs := []
  strs := []
noncomputable def f30 (K : Nat) (x : DL d30.ps) : Option (DL d30.rs) := Ev.run T [(68, d68.spec f68), (73, d73.spec f73), (67, d67.spec f67)] Go.Proofs.Try.f30 d30 K x
-- minecontrol/minecontrolref27.Maybe
def d31 : FDef where
  ms := [.fz, .fz, .fz]
  ps := (.cons t33 (.cons (.sl 3 I) (.cons I .nil)))
  rs := (.cons (.sl 3 I) .nil)
  nres := 1
  rsh := [(.own .fz)]
  rp := false
  L := [(3, [.val 1 (.sl 3 I) .fz, .val 2 I .fz, .box 3 t33 .fz, .val 7 (.sl 3 I) (.own .fz), .val 8 I .fz]), (7, [.val 1 (.sl 3 I) .fz, .val 2 I .fz, .box 3 t33 .fz, .val 7 (.sl 3 I) (.own .fz), .val 8 I .fz, .val 9 Ty.bool .fz, .val 10 I .fz])]
  mv := [45]
  eqs := []
  strs := []
noncomputable def f31 (K : Nat) (x : DL d31.ps) : Option (DL d31.rs) := Ev.run T [(72, d72.spec f72), (66, d66.spec f66)] Go.Proofs.Try.f31 d31 K x
noncomputable def l31_3 (K k1 : Nat) (x : DL (kTys (d31.keeps 3))) : Option (DL d31.rs) := Ev.loop T [(72, d72.spec f72), (66, d66.spec f66)] Go.Proofs.Try.f31 d31 K 3 [k1] (dfltL _) x
noncomputable def l31_7 (K k1 k2 : Nat) (x : DL (kTys (d31.keeps 7))) : Option (DL d31.rs) := Ev.loop T [(72, d72.spec f72), (66, d66.spec f66)] Go.Proofs.Try.f31 d31 K 7 [k1, k2] (dfltL _) x
-- minecontrol/minecontrolref26.Possible
def d77 : FDef where
  ms := [.fz, .fz, .fz]
  ps := (.cons t33 (.cons I (.cons I .nil)))
  rs := (.cons (.sl 3 I) .nil)
  nres := 1
  rsh := [(.own .fz)]
  rp := false
  L := [(3, [.val 1 I .fz, .val 2 I .fz, .box 3 t33 .fz, .val 7 (.sl 3 I) (.own .fz), .val 8 I .fz]), (6, [.val 1 I .fz, .val 2 I .fz, .box 3 t33 .fz, .val 7 (.sl 3 I) (.own .fz), .val 8 I .fz, .val 9 I .fz])]
  mv := [53]
  eqs := []
  strs := []
noncomputable def f77 (K : Nat) (x : DL d77.ps) : Option (DL d77.rs) := Ev.run T [(23, d23.spec f23), (21, d21.spec f21)] Go.Proofs.Try.f77 d77 K x
noncomputable def l77_3 (K k1 : Nat) (x : DL (kTys (d77.keeps 3))) : Option (DL d77.rs) := Ev.loop T [(23, d23.spec f23), (21, d21.spec f21)] Go.Proofs.Try.f77 d77 K 3 [k1] (dfltL _) x
noncomputable def l77_6 (K k1 k2 : Nat) (x : DL (kTys (d77.keeps 6))) : Option (DL d77.rs) := Ev.loop T [(23, d23.spec f23), (21, d21.spec f21)] Go.Proofs.Try.f77 d77 K 6 [k1, k2] (dfltL _) x
-- minecontrol/minecontrolref27.Missing
def d33 : FDef where
  ms := [.fz, .fz, .fz]
  ps := (.cons t33 (.cons I (.cons I .nil)))
  rs := (.cons (.sl 3 I) .nil)
  nres := 1
  rsh := [(.own .fz)]
  rp := false
  L := [(3, [.val 1 I .fz, .val 2 I .fz, .box 3 t33 .fz, .val 7 (.sl 3 I) (.own .fz), .val 8 I .fz])]
  mv := [26]
  eqs := []
  strs := []
noncomputable def f33 (K : Nat) (x : DL d33.ps) : Option (DL d33.rs) := Ev.run T [(72, d72.spec f72), (77, d77.spec f77)] Go.Proofs.Try.f33 d33 K x
noncomputable def l33_3 (K k1 : Nat) (x : DL (kTys (d33.keeps 3))) : Option (DL d33.rs) := Ev.loop T [(72, d72.spec f72), (77, d77.spec f77)] Go.Proofs.Try.f33 d33 K 3 [k1] (dfltL _) x
-- minecontrol/minecontrollaw27.HeadsAll
def d5 : FDef where
  ms := [.fz, .fz, .fz]
  ps := (.cons (.sl 3 I) (.cons (.sl 3 I) (.cons (.arr 2 I) .nil)))
  rs := (.cons Ty.bool .nil)
  nres := 1
  rsh := [.fz]
  rp := false
  L := [(8, [.box 5 (.arr 2 I) .fz, .box 9 t33 (.cons (.own (.cons (.own .fz) (.cons (.own (.cons .fz (.cons (.own .fz) .nil))) .nil))) .nil), .val 10 I .fz, .val 44 (.sl 22 (.sl 3 I)) (.own .fz), .val 45 I .fz, .val 46 I .fz]), (11, [.box 5 (.arr 2 I) .fz, .box 9 t33 (.cons (.own (.cons (.own .fz) (.cons (.own (.cons .fz (.cons (.own .fz) .nil))) .nil))) .nil), .val 10 I .fz, .val 12 (.sl 3 I) .fz, .val 44 (.sl 22 (.sl 3 I)) (.own .fz), .val 45 I .fz, .val 46 I .fz, .val 53 (.sl 3 I) (.own .fz), .val 54 I .fz, .val 55 I .fz])]
  mv := []
  eqs := [48]
  strs := []
noncomputable def f5 (K : Nat) (x : DL d5.ps) : Option (DL d5.rs) := Ev.run T [(13, d13.spec f13), (14, d14.spec f14), (15, d15.spec f15), (16, d16.spec f16), (17, d17.spec f17), (18, d18.spec f18), (25, d25.spec f25), (20, d20.spec f20), (24, d24.spec f24), (26, d26.spec f26), (28, d28.spec f28), (29, d29.spec f29), (27, d27.spec f27), (30, d30.spec f30), (31, d31.spec f31), (32, d32.spec f32), (33, d33.spec f33)] Go.Proofs.Try.f5 d5 K x
noncomputable def l5_8 (K k1 : Nat) (x : DL (kTys (d5.keeps 8))) : Option (DL d5.rs) := Ev.loop T [(13, d13.spec f13), (14, d14.spec f14), (15, d15.spec f15), (16, d16.spec f16), (17, d17.spec f17), (18, d18.spec f18), (25, d25.spec f25), (20, d20.spec f20), (24, d24.spec f24), (26, d26.spec f26), (28, d28.spec f28), (29, d29.spec f29), (27, d27.spec f27), (30, d30.spec f30), (31, d31.spec f31), (32, d32.spec f32), (33, d33.spec f33)] Go.Proofs.Try.f5 d5 K 8 [k1] (dfltL _) x
noncomputable def l5_11 (K k1 k2 : Nat) (x : DL (kTys (d5.keeps 11))) : Option (DL d5.rs) := Ev.loop T [(13, d13.spec f13), (14, d14.spec f14), (15, d15.spec f15), (16, d16.spec f16), (17, d17.spec f17), (18, d18.spec f18), (25, d25.spec f25), (20, d20.spec f20), (24, d24.spec f24), (26, d26.spec f26), (28, d28.spec f28), (29, d29.spec f29), (27, d27.spec f27), (30, d30.spec f30), (31, d31.spec f31), (32, d32.spec f32), (33, d33.spec f33)] Go.Proofs.Try.f5 d5 K 11 [k1, k2] (dfltL _) x
-- minecontrol/minecontrollaw27.HeadsTrue
def d6 : FDef where
  ms := [.fz]
  ps := (.cons (.sl 3 I) .nil)
  rs := (.cons Ty.bool .nil)
  nres := 1
  rsh := [.fz]
  rp := false
  L := [(11, [.box 3 t88 (.cons .fz (.cons .fz .nil)), .box 5 t33 (.cons (.own .fz) .nil), .val 6 I .fz, .val 7 (.sl 3 I) (.own .fz), .box 8 t42 .fz, .val 9 I .fz, .val 10 I .fz])]
  mv := []
  eqs := []
  strs := []
noncomputable def f6 (K : Nat) (x : DL d6.ps) : Option (DL d6.rs) := Ev.run T [(13, d13.spec f13), (14, d14.spec f14), (15, d15.spec f15), (16, d16.spec f16), (17, d17.spec f17), (18, d18.spec f18), (19, d19.spec f19), (20, d20.spec f20), (23, d23.spec f23), (21, d21.spec f21), (28, d28.spec f28), (30, d30.spec f30), (24, d24.spec f24)] Go.Proofs.Try.f6 d6 K x
noncomputable def l6_11 (K k1 : Nat) (x : DL (kTys (d6.keeps 11))) : Option (DL d6.rs) := Ev.loop T [(13, d13.spec f13), (14, d14.spec f14), (15, d15.spec f15), (16, d16.spec f16), (17, d17.spec f17), (18, d18.spec f18), (19, d19.spec f19), (20, d20.spec f20), (23, d23.spec f23), (21, d21.spec f21), (28, d28.spec f28), (30, d30.spec f30), (24, d24.spec f24)] Go.Proofs.Try.f6 d6 K 11 [k1] (dfltL _) x
-- minecontrol/minecontrollaw34.ready
def d39 : FDef where
  ms := []
  ps := .nil
  rs := (.cons t57 (.cons t63 (.cons t33 .nil)))
  nres := 3
  rsh := [(.cons (.own .fz) (.cons .fz (.cons .fz .nil))), (.cons (.own .fz) (.cons (.own .fz) (.cons .fz .nil))), (.cons (.own (.cons (.own .fz) (.cons (.own (.cons .fz (.cons (.own .fz) .nil))) .nil))) .nil)]
  rp := false
  L := []
  mv := [12]
  eqs := []
  strs := []
noncomputable def f39 (K : Nat) (x : DL d39.ps) : Option (DL d39.rs) := Ev.run T [] Go.Proofs.Try.f39 d39 K x
-- minecontrol/lists.Rising
def d92 : FDef where
  ms := [.fz, .fz, .fz]
  ps := (.cons (.sl 3 I) (.cons I (.cons I .nil)))
  rs := (.cons Ty.bool .nil)
  nres := 1
  rsh := [.fz]
  rp := false
  L := [(2, [.val 0 (.sl 3 I) .fz, .val 1 I .fz, .val 2 I .fz, .val 9 (.sl 3 I) .fz, .val 10 I .fz, .val 11 I .fz])]
  mv := []
  eqs := []
  strs := []
noncomputable def f92 (K : Nat) (x : DL d92.ps) : Option (DL d92.rs) := Ev.run T [] Go.Proofs.Try.f92 d92 K x
noncomputable def l92_2 (K k1 : Nat) (x : DL (kTys (d92.keeps 2))) : Option (DL d92.rs) := Ev.loop T [] Go.Proofs.Try.f92 d92 K 2 [k1] (dfltL _) x
-- minecontrol/firing.Valid
def d45 : FDef where
  ms := [.fz, .fz]
  ps := (.cons t57 (.cons t59 .nil))
  rs := (.cons Ty.bool .nil)
  nres := 1
  rsh := [.fz]
  rp := false
  L := []
  mv := []
  eqs := [60]
  strs := []
noncomputable def f45 (K : Nat) (x : DL d45.ps) : Option (DL d45.rs) := Ev.run T [(92, d92.spec f92), (93, d93.spec f93)] Go.Proofs.Try.f45 d45 K x
-- minecontrol/keys.roads
def d102 : FDef where
  ms := [.fz]
  ps := (.cons (.sl 3 I) .nil)
  rs := (.cons Ty.bool .nil)
  nres := 1
  rsh := [.fz]
  rp := false
  L := []
  mv := []
  eqs := []
  strs := []
noncomputable def f102 (K : Nat) (x : DL d102.ps) : Option (DL d102.rs) := Ev.run T [(93, d93.spec f93), (92, d92.spec f92)] Go.Proofs.Try.f102 d102 K x
-- minecontrol/keys.Valid$1
def d106 : FDef where
  ms := [.fz]
  ps := (.cons I .nil)
  rs := (.cons Ty.bool .nil)
  nres := 1
  rsh := [.fz]
  rp := false
  L := []
  mv := []
  eqs := []
  strs := []
noncomputable def f106 (K : Nat) (x : DL d106.ps) : Option (DL d106.rs) := Ev.run T [(93, d93.spec f93)] Go.Proofs.Try.f106 d106 K x
-- minecontrol/keys.boxed$1
def d140 : FDef where
  ms := [.fz]
  ps := (.cons I .nil)
  rs := (.cons Ty.bool .nil)
  nres := 1
  rsh := [.fz]
  rp := false
  L := []
  mv := []
  eqs := []
  strs := []
noncomputable def f140 (K : Nat) (x : DL d140.ps) : Option (DL d140.rs) := Ev.run T [] Go.Proofs.Try.f140 d140 K x
-- minecontrol/keys.boxed
def d108 : FDef where
  ms := [.fz]
  ps := (.cons t63 .nil)
  rs := (.cons Ty.bool .nil)
  nres := 1
  rsh := [.fz]
  rp := false
  L := []
  mv := []
  eqs := []
  strs := []
noncomputable def f108 (K : Nat) (x : DL d108.ps) : Option (DL d108.rs) := Ev.run T [(107, d107.spec f107), (140, d140.spec f140)] Go.Proofs.Try.f108 d108 K x
-- minecontrol/keys.Valid
def d58 : FDef where
  ms := [.fz]
  ps := (.cons t63 .nil)
  rs := (.cons Ty.bool .nil)
  nres := 1
  rsh := [.fz]
  rp := false
  L := []
  mv := []
  eqs := []
  strs := []
noncomputable def f58 (K : Nat) (x : DL d58.ps) : Option (DL d58.rs) := Ev.run T [(106, d106.spec f106), (102, d102.spec f102), (107, d107.spec f107), (108, d108.spec f108)] Go.Proofs.Try.f58 d58 K x
-- minecontrol/area.Clear$1
def d156 : FDef where
  ms := [.fz, .efz]
  ps := (.cons I (.cons t45 .nil))
  rs := (.cons Ty.bool .nil)
  nres := 1
  rsh := [.fz]
  rp := false
  L := []
  mv := []
  eqs := []
  strs := []
noncomputable def f156 (K : Nat) (x : DL d156.ps) : Option (DL d156.rs) := Ev.run T [(93, d93.spec f93)] Go.Proofs.Try.f156 d156 K x
-- minecontrol/area.Clear
def d133 : FDef where
  ms := [.fz, .fz]
  ps := (.cons t33 (.cons (.sl 3 I) .nil))
  rs := (.cons Ty.bool .nil)
  nres := 1
  rsh := [.fz]
  rp := false
  L := [(2, [.val 1 (.sl 3 I) .fz, .val 10 (.sl 43 t42) .fz, .val 11 I .fz, .val 12 I .fz]), (5, [.val 1 (.sl 3 I) .fz, .val 10 (.sl 43 t42) .fz, .val 11 I .fz, .val 12 I .fz, .val 17 (.sl 46 t45) .fz, .val 18 I .fz, .val 19 I .fz])]
  mv := []
  eqs := []
  strs := []
noncomputable def f133 (K : Nat) (x : DL d133.ps) : Option (DL d133.rs) := Ev.run T [(156, d156.spec f156), (107, d107.spec f107)] Go.Proofs.Try.f133 d133 K x
noncomputable def l133_2 (K k1 : Nat) (x : DL (kTys (d133.keeps 2))) : Option (DL d133.rs) := Ev.loop T [(156, d156.spec f156), (107, d107.spec f107)] Go.Proofs.Try.f133 d133 K 2 [k1] (dfltL _) x
noncomputable def l133_5 (K k1 k2 : Nat) (x : DL (kTys (d133.keeps 5))) : Option (DL d133.rs) := Ev.loop T [(156, d156.spec f156), (107, d107.spec f107)] Go.Proofs.Try.f133 d133 K 5 [k1, k2] (dfltL _) x
-- minecontrol/firing.Safe
def d86 : FDef where
  ms := [.fz, .fz, .fz]
  ps := (.cons t57 (.cons t63 (.cons t33 .nil)))
  rs := (.cons Ty.bool .nil)
  nres := 1
  rsh := [.fz]
  rp := false
  L := []
  mv := []
  eqs := []
  strs := []
noncomputable def f86 (K : Nat) (x : DL d86.ps) : Option (DL d86.rs) := Ev.run T [(45, d45.spec f45), (58, d58.spec f58), (133, d133.spec f133)] Go.Proofs.Try.f86 d86 K x
-- minecontrol/firing.timely
def d91 : FDef where
  ms := [.fz, .fz]
  ps := (.cons t59 (.cons I .nil))
  rs := (.cons Ty.bool .nil)
  nres := 1
  rsh := [.fz]
  rp := false
  L := []
  mv := []
  eqs := []
  strs := []
noncomputable def f91 (K : Nat) (x : DL d91.ps) : Option (DL d91.rs) := Ev.run T [] Go.Proofs.Try.f91 d91 K x
-- (minecontrol/firing.request).check
def d90 : FDef where
  ms := [.fz, .fz]
  ps := (.cons t110 (.cons Ty.bool .nil))
  rs := (.cons I .nil)
  nres := 1
  rsh := [.fz]
  rp := false
  L := []
  mv := []
  eqs := []
  strs := []
noncomputable def f90 (K : Nat) (x : DL d90.ps) : Option (DL d90.rs) := Ev.run T [(45, d45.spec f45), (91, d91.spec f91), (58, d58.spec f58), (86, d86.spec f86)] Go.Proofs.Try.f90 d90 K x
-- minecontrol/firing.Arm
def d41 : FDef where
  ms := [.fz, .fz, .fz, .fz, .fz, .fz]
  ps := (.cons t57 (.cons t59 (.cons t63 (.cons t33 (.cons I (.cons I .nil))))))
  rs := (.cons t59 (.cons I .nil))
  nres := 2
  rsh := [.fz, .fz]
  rp := false
  L := []
  mv := []
  eqs := []
  strs := []
noncomputable def f41 (K : Nat) (x : DL d41.ps) : Option (DL d41.rs) := Ev.run T [(90, d90.spec f90)] Go.Proofs.Try.f41 d41 K x
-- minecontrol/firing.Agree
def d42 : FDef where
  ms := [.fz, .fz, .fz, .fz, .fz, .fz]
  ps := (.cons t57 (.cons t59 (.cons t63 (.cons t33 (.cons I (.cons I .nil))))))
  rs := (.cons t59 (.cons I .nil))
  nres := 2
  rsh := [.fz, .fz]
  rp := false
  L := []
  mv := []
  eqs := []
  strs := []
noncomputable def f42 (K : Nat) (x : DL d42.ps) : Option (DL d42.rs) := Ev.run T [(90, d90.spec f90)] Go.Proofs.Try.f42 d42 K x
-- minecontrol/firing.Fire
def d43 : FDef where
  ms := [.fz, .fz, .fz, .fz, .fz, .fz]
  ps := (.cons t57 (.cons t59 (.cons t63 (.cons t33 (.cons I (.cons Ty.bool .nil))))))
  rs := (.cons t59 (.cons I .nil))
  nres := 2
  rsh := [.fz, .fz]
  rp := false
  L := []
  mv := []
  eqs := []
  strs := []
noncomputable def f43 (K : Nat) (x : DL d43.ps) : Option (DL d43.rs) := Ev.run T [(90, d90.spec f90)] Go.Proofs.Try.f43 d43 K x
-- minecontrol/firing.Due
def d78 : FDef where
  ms := [.fz, .fz, .fz]
  ps := (.cons t57 (.cons t59 (.cons I .nil)))
  rs := (.cons I .nil)
  nres := 1
  rsh := [.fz]
  rp := false
  L := []
  mv := []
  eqs := []
  strs := []
noncomputable def f78 (K : Nat) (x : DL d78.ps) : Option (DL d78.rs) := Ev.run T [(45, d45.spec f45)] Go.Proofs.Try.f78 d78 K x
-- minecontrol/minecontrollaw34.awake
def d34 : FDef where
  ms := []
  ps := .nil
  rs := (.cons Ty.bool .nil)
  nres := 1
  rsh := [.fz]
  rp := false
  L := []
  mv := []
  eqs := []
  strs := []
noncomputable def f34 (K : Nat) (x : DL d34.ps) : Option (DL d34.rs) := Ev.run T [(39, d39.spec f39), (41, d41.spec f41), (42, d42.spec f42), (43, d43.spec f43), (78, d78.spec f78)] Go.Proofs.Try.f34 d34 K x
-- (*minecontrol/minecontrolmade.Dice).Ints
def d36 : FDef where
  ms := [(.mut (.cons .fz (.cons .fz .nil)))]
  ps := (.cons t88 .nil)
  rs := (.cons (.sl 3 I) (.cons t88 .nil))
  nres := 1
  rsh := [(.own .fz), (.cons .fz (.cons .fz .nil))]
  rp := false
  L := [(3, [.box 0 t88 (.cons .fz (.cons .fz .nil)), .val 3 (.sl 3 I) (.own .fz), .val 4 I .fz])]
  mv := [17]
  eqs := []
  strs := []
noncomputable def f36 (K : Nat) (x : DL d36.ps) : Option (DL d36.rs) := Ev.run T [(19, d19.spec f19)] Go.Proofs.Try.f36 d36 K x
noncomputable def l36_3 (K k1 : Nat) (x : DL (kTys (d36.keeps 3))) : Option (DL d36.rs) := Ev.loop T [(19, d19.spec f19)] Go.Proofs.Try.f36 d36 K 3 [k1] (dfltL _) x
-- minecontrol/minecontrolref32.Border
def d79 : FDef where
  ms := [.fz, .fz]
  ps := (.cons t29 (.cons (.sl 3 I) .nil))
  rs := (.cons (.sl 3 I) .nil)
  nres := 1
  rsh := [(.own .fz)]
  rp := false
  L := [(3, [.val 1 (.sl 3 I) .fz, .box 2 t29 .fz, .val 5 (.sl 3 I) (.own .fz), .val 6 I .fz])]
  mv := [52]
  eqs := []
  strs := []
noncomputable def f79 (K : Nat) (x : DL d79.ps) : Option (DL d79.rs) := Ev.run T [(128, d128.spec f128), (21, d21.spec f21)] Go.Proofs.Try.f79 d79 K x
noncomputable def l79_3 (K k1 : Nat) (x : DL (kTys (d79.keeps 3))) : Option (DL d79.rs) := Ev.loop T [(128, d128.spec f128), (21, d21.spec f21)] Go.Proofs.Try.f79 d79 K 3 [k1] (dfltL _) x
-- minecontrol/minecontrolref31.Copy
def d155 : FDef where
  ms := [.fz]
  ps := (.cons t29 .nil)
  rs := (.cons t29 .nil)
  nres := 1
  rsh := [(.cons (.own .fz) (.cons (.own .fz) .nil))]
  rp := false
  L := []
  mv := []
  eqs := []
  strs := []
noncomputable def f155 (K : Nat) (x : DL d155.ps) : Option (DL d155.rs) := Ev.run T [] Go.Proofs.Try.f155 d155 K x
-- minecontrol/minecontrolref32.Barred
def d129 : FDef where
  ms := [.fz, .fz]
  ps := (.cons t29 (.cons (.sl 3 I) .nil))
  rs := (.cons t29 (.cons I .nil))
  nres := 2
  rsh := [(.cons (.own .fz) (.cons (.own .fz) .nil)), .fz]
  rp := false
  L := [(7, [.val 1 (.sl 3 I) .fz, .box 2 t29 (.cons (.own .fz) (.cons (.own .fz) .nil)), .box 4 t29 (.cons (.own .fz) (.cons (.own .fz) .nil)), .val 6 I .fz])]
  mv := [34]
  eqs := []
  strs := []
noncomputable def f129 (K : Nat) (x : DL d129.ps) : Option (DL d129.rs) := Ev.run T [(110, d110.spec f110), (136, d136.spec f136), (155, d155.spec f155)] Go.Proofs.Try.f129 d129 K x
noncomputable def l129_7 (K k1 : Nat) (x : DL (kTys (d129.keeps 7))) : Option (DL d129.rs) := Ev.loop T [(110, d110.spec f110), (136, d136.spec f136), (155, d155.spec f155)] Go.Proofs.Try.f129 d129 K 7 [k1] (dfltL _) x
-- minecontrol/minecontrolref32.seal
def d130 : FDef where
  ms := [.fz, .fz, .fz]
  ps := (.cons t29 (.cons t45 (.cons I .nil)))
  rs := (.cons t45 .nil)
  nres := 1
  rsh := [(.cons .fz (.cons (.own .fz) .nil))]
  rp := false
  L := [(3, [.val 2 I .fz, .box 3 t29 .fz, .box 6 t45 (.cons .fz (.cons (.own .fz) .nil)), .val 7 (.sl 3 I) (.own .fz), .val 8 I .fz])]
  mv := []
  eqs := []
  strs := []
noncomputable def f130 (K : Nat) (x : DL d130.ps) : Option (DL d130.rs) := Ev.run T [(146, d146.spec f146)] Go.Proofs.Try.f130 d130 K x
noncomputable def l130_3 (K k1 : Nat) (x : DL (kTys (d130.keeps 3))) : Option (DL d130.rs) := Ev.loop T [(146, d146.spec f146)] Go.Proofs.Try.f130 d130 K 3 [k1] (dfltL _) x
-- minecontrol/minecontrolref32.Seal
def d80 : FDef where
  ms := [.fz, .fz, .fz, .fz]
  ps := (.cons t29 (.cons t33 (.cons (.sl 3 I) (.cons I .nil))))
  rs := (.cons t33 (.cons I .nil))
  nres := 2
  rsh := [(.cons (.own (.cons (.own .fz) (.cons (.own (.cons .fz (.cons (.own .fz) .nil))) .nil))) .nil), .fz]
  rp := false
  L := [(9, [.val 3 I .fz, .box 5 t33 (.cons (.own (.cons (.own .fz) (.cons (.own (.cons .fz (.cons (.own .fz) .nil))) .nil))) .nil), .box 8 t33 (.cons (.own .fz) .nil), .box 10 t29 (.cons (.own .fz) (.cons (.own .fz) .nil)), .box 12 t33 (.cons (.own (.cons (.own .fz) (.cons (.own .fz) .nil))) .nil), .val 13 I .fz]), (12, [.val 3 I .fz, .box 5 t33 (.cons (.own (.cons (.own .fz) (.cons (.own (.cons .fz (.cons (.own .fz) .nil))) .nil))) .nil), .box 8 t33 (.cons (.own .fz) .nil), .box 10 t29 (.cons (.own .fz) (.cons (.own .fz) .nil)), .box 12 t33 (.cons (.own (.cons (.own .fz) (.cons (.own .fz) .nil))) .nil), .val 13 I .fz, .val 14 I .fz])]
  mv := [22, 31, 70, 87]
  eqs := []
  strs := []
noncomputable def f80 (K : Nat) (x : DL d80.ps) : Option (DL d80.rs) := Ev.run T [(40, d40.spec f40), (113, d113.spec f113), (129, d129.spec f129), (130, d130.spec f130), (116, d116.spec f116)] Go.Proofs.Try.f80 d80 K x
noncomputable def l80_9 (K k1 : Nat) (x : DL (kTys (d80.keeps 9))) : Option (DL d80.rs) := Ev.loop T [(40, d40.spec f40), (113, d113.spec f113), (129, d129.spec f129), (130, d130.spec f130), (116, d116.spec f116)] Go.Proofs.Try.f80 d80 K 9 [k1] (dfltL _) x
noncomputable def l80_12 (K k1 k2 : Nat) (x : DL (kTys (d80.keeps 12))) : Option (DL d80.rs) := Ev.loop T [(40, d40.spec f40), (113, d113.spec f113), (129, d129.spec f129), (130, d130.spec f130), (116, d116.spec f116)] Go.Proofs.Try.f80 d80 K 12 [k1, k2] (dfltL _) x
-- minecontrol/minecontrollaw34.scene
def d37 : FDef where
  ms := [(.mut (.cons .fz (.cons .fz .nil)))]
  ps := (.cons t88 .nil)
  rs := (.cons t57 (.cons t63 (.cons t33 (.cons t88 .nil))))
  nres := 3
  rsh := [(.cons (.own .fz) (.cons .fz (.cons .fz .nil))), (.cons (.own .fz) (.cons (.own .fz) (.cons .fz .nil))), (.cons (.own (.cons (.own .fz) (.cons (.own (.cons .fz (.cons (.own .fz) .nil))) .nil))) .nil), (.cons .fz (.cons .fz .nil))]
  rp := false
  L := []
  mv := [49, 56, 57, 58]
  eqs := []
  strs := []
noncomputable def f37 (K : Nat) (x : DL d37.ps) : Option (DL d37.rs) := Ev.run T [(16, d16.spec f16), (35, d35.spec f35), (17, d17.spec f17), (79, d79.spec f79), (18, d18.spec f18), (19, d19.spec f19), (80, d80.spec f80)] Go.Proofs.Try.f37 d37 K x
-- minecontrol/firing.Abort
def d44 : FDef where
  ms := [.fz, .fz, .fz]
  ps := (.cons t57 (.cons t59 (.cons I .nil)))
  rs := (.cons t59 (.cons I .nil))
  nres := 2
  rsh := [.fz, .fz]
  rp := false
  L := []
  mv := []
  eqs := []
  strs := []
noncomputable def f44 (K : Nat) (x : DL d44.ps) : Option (DL d44.rs) := Ev.run T [(45, d45.spec f45), (91, d91.spec f91)] Go.Proofs.Try.f44 d44 K x
-- minecontrol/minecontrolref34.blast
def d132 : FDef where
  ms := [.fz]
  ps := (.cons t57 .nil)
  rs := (.cons Ty.bool .nil)
  nres := 1
  rsh := [.fz]
  rp := false
  L := []
  mv := []
  eqs := []
  strs := []
noncomputable def f132 (K : Nat) (x : DL d132.ps) : Option (DL d132.rs) := Ev.run T [(136, d136.spec f136)] Go.Proofs.Try.f132 d132 K x
-- minecontrol/minecontrolref34.Valid
def d85 : FDef where
  ms := [.fz, .fz]
  ps := (.cons t57 (.cons t59 .nil))
  rs := (.cons Ty.bool .nil)
  nres := 1
  rsh := [.fz]
  rp := false
  L := []
  mv := []
  eqs := [60]
  strs := []
noncomputable def f85 (K : Nat) (x : DL d85.ps) : Option (DL d85.rs) := Ev.run T [(132, d132.spec f132)] Go.Proofs.Try.f85 d85 K x
-- minecontrol/minecontrolref33.Valid
def d94 : FDef where
  ms := [.fz]
  ps := (.cons t63 .nil)
  rs := (.cons Ty.bool .nil)
  nres := 1
  rsh := [.fz]
  rp := false
  L := [(4, [.box 1 t63 .fz, .val 3 I .fz])]
  mv := []
  eqs := []
  strs := []
noncomputable def f94 (K : Nat) (x : DL d94.ps) : Option (DL d94.rs) := Ev.run T [(136, d136.spec f136)] Go.Proofs.Try.f94 d94 K x
noncomputable def l94_4 (K k1 : Nat) (x : DL (kTys (d94.keeps 4))) : Option (DL d94.rs) := Ev.loop T [(136, d136.spec f136)] Go.Proofs.Try.f94 d94 K 4 [k1] (dfltL _) x
-- minecontrol/minecontrolref32.Clear
def d134 : FDef where
  ms := [.fz, .fz]
  ps := (.cons t33 (.cons (.sl 3 I) .nil))
  rs := (.cons Ty.bool .nil)
  nres := 1
  rsh := [.fz]
  rp := false
  L := [(2, [.val 1 (.sl 3 I) .fz, .box 2 t33 .fz, .val 5 I .fz]), (5, [.val 1 (.sl 3 I) .fz, .box 2 t33 .fz, .val 5 I .fz, .val 6 I .fz]), (9, [.val 1 (.sl 3 I) .fz, .box 2 t33 .fz, .val 5 I .fz, .val 6 I .fz, .val 7 (.sl 3 I) .fz, .val 8 I .fz])]
  mv := []
  eqs := []
  strs := []
noncomputable def f134 (K : Nat) (x : DL d134.ps) : Option (DL d134.rs) := Ev.run T [(21, d21.spec f21)] Go.Proofs.Try.f134 d134 K x
noncomputable def l134_2 (K k1 : Nat) (x : DL (kTys (d134.keeps 2))) : Option (DL d134.rs) := Ev.loop T [(21, d21.spec f21)] Go.Proofs.Try.f134 d134 K 2 [k1] (dfltL _) x
noncomputable def l134_5 (K k1 k2 : Nat) (x : DL (kTys (d134.keeps 5))) : Option (DL d134.rs) := Ev.loop T [(21, d21.spec f21)] Go.Proofs.Try.f134 d134 K 5 [k1, k2] (dfltL _) x
noncomputable def l134_9 (K k1 k2 k3 : Nat) (x : DL (kTys (d134.keeps 9))) : Option (DL d134.rs) := Ev.loop T [(21, d21.spec f21)] Go.Proofs.Try.f134 d134 K 9 [k1, k2, k3] (dfltL _) x
-- minecontrol/minecontrolref34.Safe
def d87 : FDef where
  ms := [.fz, .fz, .fz]
  ps := (.cons t57 (.cons t63 (.cons t33 .nil)))
  rs := (.cons Ty.bool .nil)
  nres := 1
  rsh := [.fz]
  rp := false
  L := []
  mv := []
  eqs := []
  strs := []
noncomputable def f87 (K : Nat) (x : DL d87.ps) : Option (DL d87.rs) := Ev.run T [(132, d132.spec f132), (94, d94.spec f94), (134, d134.spec f134)] Go.Proofs.Try.f87 d87 K x
-- minecontrol/minecontrolref34.step
def d131 : FDef where
  ms := [.fz, .fz, .fz, .fz, .fz, .fz, .fz]
  ps := (.cons t57 (.cons t59 (.cons t63 (.cons t33 (.cons I (.cons I (.cons I .nil)))))))
  rs := (.cons I .nil)
  nres := 1
  rsh := [.fz]
  rp := false
  L := []
  mv := []
  eqs := []
  strs := []
noncomputable def f131 (K : Nat) (x : DL d131.ps) : Option (DL d131.rs) := Ev.run T [(85, d85.spec f85), (94, d94.spec f94), (87, d87.spec f87)] Go.Proofs.Try.f131 d131 K x
-- minecontrol/minecontrolref34.Arm
def d81 : FDef where
  ms := [.fz, .fz, .fz, .fz, .fz, .fz]
  ps := (.cons t57 (.cons t59 (.cons t63 (.cons t33 (.cons I (.cons I .nil))))))
  rs := (.cons t59 (.cons I .nil))
  nres := 2
  rsh := [.fz, .fz]
  rp := false
  L := []
  mv := []
  eqs := []
  strs := []
noncomputable def f81 (K : Nat) (x : DL d81.ps) : Option (DL d81.rs) := Ev.run T [(131, d131.spec f131)] Go.Proofs.Try.f81 d81 K x
-- minecontrol/minecontrolref34.Agree
def d82 : FDef where
  ms := [.fz, .fz, .fz, .fz, .fz, .fz]
  ps := (.cons t57 (.cons t59 (.cons t63 (.cons t33 (.cons I (.cons I .nil))))))
  rs := (.cons t59 (.cons I .nil))
  nres := 2
  rsh := [.fz, .fz]
  rp := false
  L := []
  mv := []
  eqs := []
  strs := []
noncomputable def f82 (K : Nat) (x : DL d82.ps) : Option (DL d82.rs) := Ev.run T [(131, d131.spec f131)] Go.Proofs.Try.f82 d82 K x
-- minecontrol/minecontrolref34.Fire
def d83 : FDef where
  ms := [.fz, .fz, .fz, .fz, .fz, .fz]
  ps := (.cons t57 (.cons t59 (.cons t63 (.cons t33 (.cons I (.cons Ty.bool .nil))))))
  rs := (.cons t59 (.cons I .nil))
  nres := 2
  rsh := [.fz, .fz]
  rp := false
  L := []
  mv := []
  eqs := []
  strs := []
noncomputable def f83 (K : Nat) (x : DL d83.ps) : Option (DL d83.rs) := Ev.run T [(131, d131.spec f131)] Go.Proofs.Try.f83 d83 K x
-- minecontrol/minecontrolref34.Abort
def d84 : FDef where
  ms := [.fz, .fz, .fz]
  ps := (.cons t57 (.cons t59 (.cons I .nil)))
  rs := (.cons t59 (.cons I .nil))
  nres := 2
  rsh := [.fz, .fz]
  rp := false
  L := []
  mv := []
  eqs := []
  strs := []
noncomputable def f84 (K : Nat) (x : DL d84.ps) : Option (DL d84.rs) := Ev.run T [(85, d85.spec f85)] Go.Proofs.Try.f84 d84 K x
-- minecontrol/minecontrolref34.Due
def d88 : FDef where
  ms := [.fz, .fz, .fz]
  ps := (.cons t57 (.cons t59 (.cons I .nil)))
  rs := (.cons I .nil)
  nres := 1
  rsh := [.fz]
  rp := false
  L := []
  mv := []
  eqs := []
  strs := []
noncomputable def f88 (K : Nat) (x : DL d88.ps) : Option (DL d88.rs) := Ev.run T [(85, d85.spec f85)] Go.Proofs.Try.f88 d88 K x
-- minecontrol/minecontrollaw34.agree
def d38 : FDef where
  ms := [.fz, .fz, .fz, .fz, .fz, .fz, .fz]
  ps := (.cons t57 (.cons t59 (.cons t63 (.cons t33 (.cons I (.cons I (.cons Ty.bool .nil)))))))
  rs := (.cons Ty.bool .nil)
  nres := 1
  rsh := [.fz]
  rp := false
  L := []
  mv := []
  eqs := [60]
  strs := []
noncomputable def f38 (K : Nat) (x : DL d38.ps) : Option (DL d38.rs) := Ev.run T [(41, d41.spec f41), (81, d81.spec f81), (42, d42.spec f42), (82, d82.spec f82), (43, d43.spec f43), (83, d83.spec f83), (44, d44.spec f44), (84, d84.spec f84), (45, d45.spec f45), (85, d85.spec f85), (86, d86.spec f86), (87, d87.spec f87), (78, d78.spec f78), (88, d88.spec f88)] Go.Proofs.Try.f38 d38 K x
-- minecontrol/minecontrollaw34.FiringRaw
def d7 : FDef where
  ms := [.fz, .fz, .fz]
  ps := (.cons (.sl 3 I) (.cons t57 (.cons t59 .nil)))
  rs := (.cons Ty.bool .nil)
  nres := 1
  rsh := [.fz]
  rp := false
  L := []
  mv := []
  eqs := []
  strs := []
noncomputable def f7 (K : Nat) (x : DL d7.ps) : Option (DL d7.rs) := Ev.run T [(13, d13.spec f13), (34, d34.spec f34), (15, d15.spec f15), (35, d35.spec f35), (20, d20.spec f20), (36, d36.spec f36), (22, d22.spec f22), (37, d37.spec f37), (38, d38.spec f38)] Go.Proofs.Try.f7 d7 K x
-- minecontrol/minecontrollaw34.FiringMade
def d8 : FDef where
  ms := [.fz]
  ps := (.cons (.sl 3 I) .nil)
  rs := (.cons Ty.bool .nil)
  nres := 1
  rsh := [.fz]
  rp := false
  L := [(13, [.box 3 t88 (.cons .fz (.cons .fz .nil)), .box 4 t57 (.cons (.own .fz) (.cons .fz (.cons .fz .nil))), .box 5 t63 (.cons (.own .fz) (.cons (.own .fz) (.cons .fz .nil))), .box 6 t33 (.cons (.own (.cons (.own .fz) (.cons (.own (.cons .fz (.cons (.own .fz) .nil))) .nil))) .nil), .box 7 t59 (.cons .fz (.cons .fz (.cons .fz (.cons .fz .nil)))), .val 8 I .fz])]
  mv := []
  eqs := []
  strs := []
noncomputable def f8 (K : Nat) (x : DL d8.ps) : Option (DL d8.rs) := Ev.run T [(13, d13.spec f13), (34, d34.spec f34), (15, d15.spec f15), (37, d37.spec f37), (22, d22.spec f22), (39, d39.spec f39), (19, d19.spec f19), (35, d35.spec f35), (38, d38.spec f38)] Go.Proofs.Try.f8 d8 K x
noncomputable def l8_13 (K k1 : Nat) (x : DL (kTys (d8.keeps 13))) : Option (DL d8.rs) := Ev.loop T [(13, d13.spec f13), (34, d34.spec f34), (15, d15.spec f15), (37, d37.spec f37), (22, d22.spec f22), (39, d39.spec f39), (19, d19.spec f19), (35, d35.spec f35), (38, d38.spec f38)] Go.Proofs.Try.f8 d8 K 13 [k1] (dfltL _) x
end Fs
