import Derived.Test.YtnagfbadjbkhmaaPAx0
import Derived.Test.YtnagfbadjbkhmaaPAx2
namespace Go.Proofs.Ytnagfbadjbkhmaa.PA
open Go.RowKit Go.Proofs.YtnagfbadjbkhmaaW.PrintWords Go.Proofs.YtnagfbadjbkhmaaW.PrintLast Go.Proofs.YtnagfbadjbkhmaaW.PrintMore
attribute [local go_sem] max2_int min2_int max_two min_two max_three min_three max_four min_four   -- for this text's walks alone
attribute [local go_sem high] Flt.fold_eq Flt.fold_ne Flt.fold_lt Flt.fold_gt Flt.fold_le Flt.fold_ge Flt.run_bits Flt.run_frombits
set_option linter.unusedVariables false
set_option linter.unusedSimpArgs false

/-! places of arrays -/
set_option maxRecDepth 100000 in
theorem config_Check.at114_0 (x0 : Int) (x1 : Int) (x2 : Int) (x3 : Int) (x4 : Int) (x5 : Int) (x6 : Int) (x7 : Int) (x8 : Int) (x9 : Int) (x10 : Int) (x11 : Int) (x12 : Int) (x13 : Int) (x14 : Int) (x15 : Int) (x16 : Int) (x17 : Int) (x18 : Int) (x19 : Int) (x20 : Int) (x21 : Int) (x22 : Int) (x23 : Int) (x24 : Int) (x25 : Int) (x26 : Int) (x27 : Int) (W : World) : (Instr.index 114 (.agg #[.int .i64 x0,.int .i64 x1,.int .i64 x2,.int .i64 x3,.int .i64 x4,.int .i64 x5,.int .i64 x6,.int .i64 x7,.int .i64 x8,.int .i64 x9,.int .i64 x10,.int .i64 x11,.int .i64 x12,.int .i64 x13,.int .i64 x14,.int .i64 x15,.int .i64 x16,.int .i64 x17,.int .i64 x18,.int .i64 x19,.int .i64 x20,.int .i64 x21,.int .i64 x22,.int .i64 x23,.int .i64 x24,.int .i64 x25,.int .i64 x26,.int .i64 x27]) (.int .i64 0)).run Try.prog W = .ok (.agg #[.int .i64 x0,.int .i64 x1,.int .i64 x2,.int .i64 x3]) W:=by first|rfl|kernel_rfl
set_option maxRecDepth 100000 in
theorem config_Check.at114_1 (x0 : Int) (x1 : Int) (x2 : Int) (x3 : Int) (x4 : Int) (x5 : Int) (x6 : Int) (x7 : Int) (x8 : Int) (x9 : Int) (x10 : Int) (x11 : Int) (x12 : Int) (x13 : Int) (x14 : Int) (x15 : Int) (x16 : Int) (x17 : Int) (x18 : Int) (x19 : Int) (x20 : Int) (x21 : Int) (x22 : Int) (x23 : Int) (x24 : Int) (x25 : Int) (x26 : Int) (x27 : Int) (W : World) : (Instr.index 114 (.agg #[.int .i64 x0,.int .i64 x1,.int .i64 x2,.int .i64 x3,.int .i64 x4,.int .i64 x5,.int .i64 x6,.int .i64 x7,.int .i64 x8,.int .i64 x9,.int .i64 x10,.int .i64 x11,.int .i64 x12,.int .i64 x13,.int .i64 x14,.int .i64 x15,.int .i64 x16,.int .i64 x17,.int .i64 x18,.int .i64 x19,.int .i64 x20,.int .i64 x21,.int .i64 x22,.int .i64 x23,.int .i64 x24,.int .i64 x25,.int .i64 x26,.int .i64 x27]) (.int .i64 1)).run Try.prog W = .ok (.agg #[.int .i64 x4,.int .i64 x5,.int .i64 x6,.int .i64 x7]) W:=by first|rfl|kernel_rfl
set_option maxRecDepth 100000 in
theorem config_Check.at114_2 (x0 : Int) (x1 : Int) (x2 : Int) (x3 : Int) (x4 : Int) (x5 : Int) (x6 : Int) (x7 : Int) (x8 : Int) (x9 : Int) (x10 : Int) (x11 : Int) (x12 : Int) (x13 : Int) (x14 : Int) (x15 : Int) (x16 : Int) (x17 : Int) (x18 : Int) (x19 : Int) (x20 : Int) (x21 : Int) (x22 : Int) (x23 : Int) (x24 : Int) (x25 : Int) (x26 : Int) (x27 : Int) (W : World) : (Instr.index 114 (.agg #[.int .i64 x0,.int .i64 x1,.int .i64 x2,.int .i64 x3,.int .i64 x4,.int .i64 x5,.int .i64 x6,.int .i64 x7,.int .i64 x8,.int .i64 x9,.int .i64 x10,.int .i64 x11,.int .i64 x12,.int .i64 x13,.int .i64 x14,.int .i64 x15,.int .i64 x16,.int .i64 x17,.int .i64 x18,.int .i64 x19,.int .i64 x20,.int .i64 x21,.int .i64 x22,.int .i64 x23,.int .i64 x24,.int .i64 x25,.int .i64 x26,.int .i64 x27]) (.int .i64 2)).run Try.prog W = .ok (.agg #[.int .i64 x8,.int .i64 x9,.int .i64 x10,.int .i64 x11]) W:=by first|rfl|kernel_rfl
set_option maxRecDepth 100000 in
theorem config_Check.at114_3 (x0 : Int) (x1 : Int) (x2 : Int) (x3 : Int) (x4 : Int) (x5 : Int) (x6 : Int) (x7 : Int) (x8 : Int) (x9 : Int) (x10 : Int) (x11 : Int) (x12 : Int) (x13 : Int) (x14 : Int) (x15 : Int) (x16 : Int) (x17 : Int) (x18 : Int) (x19 : Int) (x20 : Int) (x21 : Int) (x22 : Int) (x23 : Int) (x24 : Int) (x25 : Int) (x26 : Int) (x27 : Int) (W : World) : (Instr.index 114 (.agg #[.int .i64 x0,.int .i64 x1,.int .i64 x2,.int .i64 x3,.int .i64 x4,.int .i64 x5,.int .i64 x6,.int .i64 x7,.int .i64 x8,.int .i64 x9,.int .i64 x10,.int .i64 x11,.int .i64 x12,.int .i64 x13,.int .i64 x14,.int .i64 x15,.int .i64 x16,.int .i64 x17,.int .i64 x18,.int .i64 x19,.int .i64 x20,.int .i64 x21,.int .i64 x22,.int .i64 x23,.int .i64 x24,.int .i64 x25,.int .i64 x26,.int .i64 x27]) (.int .i64 3)).run Try.prog W = .ok (.agg #[.int .i64 x12,.int .i64 x13,.int .i64 x14,.int .i64 x15]) W:=by first|rfl|kernel_rfl
set_option maxRecDepth 100000 in
theorem config_Check.at114_4 (x0 : Int) (x1 : Int) (x2 : Int) (x3 : Int) (x4 : Int) (x5 : Int) (x6 : Int) (x7 : Int) (x8 : Int) (x9 : Int) (x10 : Int) (x11 : Int) (x12 : Int) (x13 : Int) (x14 : Int) (x15 : Int) (x16 : Int) (x17 : Int) (x18 : Int) (x19 : Int) (x20 : Int) (x21 : Int) (x22 : Int) (x23 : Int) (x24 : Int) (x25 : Int) (x26 : Int) (x27 : Int) (W : World) : (Instr.index 114 (.agg #[.int .i64 x0,.int .i64 x1,.int .i64 x2,.int .i64 x3,.int .i64 x4,.int .i64 x5,.int .i64 x6,.int .i64 x7,.int .i64 x8,.int .i64 x9,.int .i64 x10,.int .i64 x11,.int .i64 x12,.int .i64 x13,.int .i64 x14,.int .i64 x15,.int .i64 x16,.int .i64 x17,.int .i64 x18,.int .i64 x19,.int .i64 x20,.int .i64 x21,.int .i64 x22,.int .i64 x23,.int .i64 x24,.int .i64 x25,.int .i64 x26,.int .i64 x27]) (.int .i64 4)).run Try.prog W = .ok (.agg #[.int .i64 x16,.int .i64 x17,.int .i64 x18,.int .i64 x19]) W:=by first|rfl|kernel_rfl
set_option maxRecDepth 100000 in
theorem config_Check.at114_5 (x0 : Int) (x1 : Int) (x2 : Int) (x3 : Int) (x4 : Int) (x5 : Int) (x6 : Int) (x7 : Int) (x8 : Int) (x9 : Int) (x10 : Int) (x11 : Int) (x12 : Int) (x13 : Int) (x14 : Int) (x15 : Int) (x16 : Int) (x17 : Int) (x18 : Int) (x19 : Int) (x20 : Int) (x21 : Int) (x22 : Int) (x23 : Int) (x24 : Int) (x25 : Int) (x26 : Int) (x27 : Int) (W : World) : (Instr.index 114 (.agg #[.int .i64 x0,.int .i64 x1,.int .i64 x2,.int .i64 x3,.int .i64 x4,.int .i64 x5,.int .i64 x6,.int .i64 x7,.int .i64 x8,.int .i64 x9,.int .i64 x10,.int .i64 x11,.int .i64 x12,.int .i64 x13,.int .i64 x14,.int .i64 x15,.int .i64 x16,.int .i64 x17,.int .i64 x18,.int .i64 x19,.int .i64 x20,.int .i64 x21,.int .i64 x22,.int .i64 x23,.int .i64 x24,.int .i64 x25,.int .i64 x26,.int .i64 x27]) (.int .i64 5)).run Try.prog W = .ok (.agg #[.int .i64 x20,.int .i64 x21,.int .i64 x22,.int .i64 x23]) W:=by first|rfl|kernel_rfl
set_option maxRecDepth 100000 in
theorem config_Check.at114_6 (x0 : Int) (x1 : Int) (x2 : Int) (x3 : Int) (x4 : Int) (x5 : Int) (x6 : Int) (x7 : Int) (x8 : Int) (x9 : Int) (x10 : Int) (x11 : Int) (x12 : Int) (x13 : Int) (x14 : Int) (x15 : Int) (x16 : Int) (x17 : Int) (x18 : Int) (x19 : Int) (x20 : Int) (x21 : Int) (x22 : Int) (x23 : Int) (x24 : Int) (x25 : Int) (x26 : Int) (x27 : Int) (W : World) : (Instr.index 114 (.agg #[.int .i64 x0,.int .i64 x1,.int .i64 x2,.int .i64 x3,.int .i64 x4,.int .i64 x5,.int .i64 x6,.int .i64 x7,.int .i64 x8,.int .i64 x9,.int .i64 x10,.int .i64 x11,.int .i64 x12,.int .i64 x13,.int .i64 x14,.int .i64 x15,.int .i64 x16,.int .i64 x17,.int .i64 x18,.int .i64 x19,.int .i64 x20,.int .i64 x21,.int .i64 x22,.int .i64 x23,.int .i64 x24,.int .i64 x25,.int .i64 x26,.int .i64 x27]) (.int .i64 6)).run Try.prog W = .ok (.agg #[.int .i64 x24,.int .i64 x25,.int .i64 x26,.int .i64 x27]) W:=by first|rfl|kernel_rfl
attribute [local go_sem] config_Check.at114_0 config_Check.at114_1 config_Check.at114_2 config_Check.at114_3 config_Check.at114_4 config_Check.at114_5 config_Check.at114_6
/-! ### config_Check: function 47 -/
mutual
def config_Check.l0 : Nat → Int → Int → Int → Int → Int → Int → Int → Int → Int → Int → Int → Int → Int → Int → Int → Int → Int → Int → Int → Int → Int → Int → Int → Int → Int → Int → Int → Int → Int → Int → Int → Int → Int → Int → Int → Int → Option (Int)
 | 0,_,_,_,_,_,_,_,_,_,_,_,_,_,_,_,_,_,_,_,_,_,_,_,_,_,_,_,_,_,_,_,_,_,_,_,_=>none
 | k + 1,x7,x107000,x107001,x107002,x107003,x107004,x107005,x107006,x900007000,x900007001,x900007002,x900007003,x900007004,x900007005,x900007006,x900007007,x900007008,x900007009,x900007010,x900007011,x900007012,x900007013,x900007014,x900007015,x900007016,x900007017,x900007018,x900007019,x900007020,x900007021,x900007022,x900007023,x900007024,x900007025,x900007026,x900007027=>if x7 < 7 then (if x7 = 0 then (if x900007000 < x900007001 then (config_Check.j1 k 0 (decide (x900007000 < x900007001)) x107000 x107001 x107002 x107003 x107004 x107005 x107006 x900007000 x900007001 x900007002 x900007003 x900007000 x900007001 x900007002 x900007003 x900007004 x900007005 x900007006 x900007007 x900007008 x900007009 x900007010 x900007011 x900007012 x900007013 x900007014 x900007015 x900007016 x900007017 x900007018 x900007019 x900007020 x900007021 x900007022 x900007023 x900007024 x900007025 x900007026 x900007027) else (if x900007000 > x900007002 then (config_Check.j1 k 0 (decide (x900007000 > x900007002)) x107000 x107001 x107002 x107003 x107004 x107005 x107006 x900007000 x900007001 x900007002 x900007003 x900007000 x900007001 x900007002 x900007003 x900007004 x900007005 x900007006 x900007007 x900007008 x900007009 x900007010 x900007011 x900007012 x900007013 x900007014 x900007015 x900007016 x900007017 x900007018 x900007019 x900007020 x900007021 x900007022 x900007023 x900007024 x900007025 x900007026 x900007027) else (config_Check.j1 k 0 false x107000 x107001 x107002 x107003 x107004 x107005 x107006 x900007000 x900007001 x900007002 x900007003 x900007000 x900007001 x900007002 x900007003 x900007004 x900007005 x900007006 x900007007 x900007008 x900007009 x900007010 x900007011 x900007012 x900007013 x900007014 x900007015 x900007016 x900007017 x900007018 x900007019 x900007020 x900007021 x900007022 x900007023 x900007024 x900007025 x900007026 x900007027))) else (if x7 = 1 then (if x900007004 < x900007005 then (config_Check.j2 k 1 (decide (x900007004 < x900007005)) x107000 x107001 x107002 x107003 x107004 x107005 x107006 x900007004 x900007005 x900007006 x900007007 x900007000 x900007001 x900007002 x900007003 x900007004 x900007005 x900007006 x900007007 x900007008 x900007009 x900007010 x900007011 x900007012 x900007013 x900007014 x900007015 x900007016 x900007017 x900007018 x900007019 x900007020 x900007021 x900007022 x900007023 x900007024 x900007025 x900007026 x900007027) else (if x107000 = 1 then (config_Check.j2 k 1 (x900007004 != 0) x107000 x107001 x107002 x107003 x107004 x107005 x107006 x900007004 x900007005 x900007006 x900007007 x900007000 x900007001 x900007002 x900007003 x900007004 x900007005 x900007006 x900007007 x900007008 x900007009 x900007010 x900007011 x900007012 x900007013 x900007014 x900007015 x900007016 x900007017 x900007018 x900007019 x900007020 x900007021 x900007022 x900007023 x900007024 x900007025 x900007026 x900007027) else (config_Check.j2 k 1 false x107000 x107001 x107002 x107003 x107004 x107005 x107006 x900007004 x900007005 x900007006 x900007007 x900007000 x900007001 x900007002 x900007003 x900007004 x900007005 x900007006 x900007007 x900007008 x900007009 x900007010 x900007011 x900007012 x900007013 x900007014 x900007015 x900007016 x900007017 x900007018 x900007019 x900007020 x900007021 x900007022 x900007023 x900007024 x900007025 x900007026 x900007027))) else (if x7 = 2 then (if x900007008 < x900007009 then (config_Check.j3 k 2 (decide (x900007008 < x900007009)) x107000 x107001 x107002 x107003 x107004 x107005 x107006 x900007008 x900007009 x900007010 x900007011 x900007000 x900007001 x900007002 x900007003 x900007004 x900007005 x900007006 x900007007 x900007008 x900007009 x900007010 x900007011 x900007012 x900007013 x900007014 x900007015 x900007016 x900007017 x900007018 x900007019 x900007020 x900007021 x900007022 x900007023 x900007024 x900007025 x900007026 x900007027) else (config_Check.j3 k 2 false x107000 x107001 x107002 x107003 x107004 x107005 x107006 x900007008 x900007009 x900007010 x900007011 x900007000 x900007001 x900007002 x900007003 x900007004 x900007005 x900007006 x900007007 x900007008 x900007009 x900007010 x900007011 x900007012 x900007013 x900007014 x900007015 x900007016 x900007017 x900007018 x900007019 x900007020 x900007021 x900007022 x900007023 x900007024 x900007025 x900007026 x900007027)) else (if x7 = 3 then (if x900007012 < x900007013 then (config_Check.j4 k 3 (decide (x900007012 < x900007013)) x107000 x107001 x107002 x107003 x107004 x107005 x107006 x900007012 x900007013 x900007014 x900007015 x900007000 x900007001 x900007002 x900007003 x900007004 x900007005 x900007006 x900007007 x900007008 x900007009 x900007010 x900007011 x900007012 x900007013 x900007014 x900007015 x900007016 x900007017 x900007018 x900007019 x900007020 x900007021 x900007022 x900007023 x900007024 x900007025 x900007026 x900007027) else (config_Check.j4 k 3 false x107000 x107001 x107002 x107003 x107004 x107005 x107006 x900007012 x900007013 x900007014 x900007015 x900007000 x900007001 x900007002 x900007003 x900007004 x900007005 x900007006 x900007007 x900007008 x900007009 x900007010 x900007011 x900007012 x900007013 x900007014 x900007015 x900007016 x900007017 x900007018 x900007019 x900007020 x900007021 x900007022 x900007023 x900007024 x900007025 x900007026 x900007027)) else (if x7 = 4 then (if x900007016 < x900007017 then (config_Check.j5 k 4 (decide (x900007016 < x900007017)) x107000 x107001 x107002 x107003 x107004 x107005 x107006 x900007016 x900007017 x900007018 x900007019 x900007000 x900007001 x900007002 x900007003 x900007004 x900007005 x900007006 x900007007 x900007008 x900007009 x900007010 x900007011 x900007012 x900007013 x900007014 x900007015 x900007016 x900007017 x900007018 x900007019 x900007020 x900007021 x900007022 x900007023 x900007024 x900007025 x900007026 x900007027) else (config_Check.j5 k 4 false x107000 x107001 x107002 x107003 x107004 x107005 x107006 x900007016 x900007017 x900007018 x900007019 x900007000 x900007001 x900007002 x900007003 x900007004 x900007005 x900007006 x900007007 x900007008 x900007009 x900007010 x900007011 x900007012 x900007013 x900007014 x900007015 x900007016 x900007017 x900007018 x900007019 x900007020 x900007021 x900007022 x900007023 x900007024 x900007025 x900007026 x900007027)) else (if x7 = 5 then (if x900007020 < x900007021 then (config_Check.j6 k 5 (decide (x900007020 < x900007021)) x107000 x107001 x107002 x107003 x107004 x107005 x107006 x900007020 x900007021 x900007022 x900007023 x900007000 x900007001 x900007002 x900007003 x900007004 x900007005 x900007006 x900007007 x900007008 x900007009 x900007010 x900007011 x900007012 x900007013 x900007014 x900007015 x900007016 x900007017 x900007018 x900007019 x900007020 x900007021 x900007022 x900007023 x900007024 x900007025 x900007026 x900007027) else (config_Check.j6 k 5 false x107000 x107001 x107002 x107003 x107004 x107005 x107006 x900007020 x900007021 x900007022 x900007023 x900007000 x900007001 x900007002 x900007003 x900007004 x900007005 x900007006 x900007007 x900007008 x900007009 x900007010 x900007011 x900007012 x900007013 x900007014 x900007015 x900007016 x900007017 x900007018 x900007019 x900007020 x900007021 x900007022 x900007023 x900007024 x900007025 x900007026 x900007027)) else (if x7 = 6 then (if x900007024 < x900007025 then (config_Check.j7 k 6 (decide (x900007024 < x900007025)) x107000 x107001 x107002 x107003 x107004 x107005 x107006 x900007024 x900007025 x900007026 x900007027 x900007000 x900007001 x900007002 x900007003 x900007004 x900007005 x900007006 x900007007 x900007008 x900007009 x900007010 x900007011 x900007012 x900007013 x900007014 x900007015 x900007016 x900007017 x900007018 x900007019 x900007020 x900007021 x900007022 x900007023 x900007024 x900007025 x900007026 x900007027) else (config_Check.j7 k 6 false x107000 x107001 x107002 x107003 x107004 x107005 x107006 x900007024 x900007025 x900007026 x900007027 x900007000 x900007001 x900007002 x900007003 x900007004 x900007005 x900007006 x900007007 x900007008 x900007009 x900007010 x900007011 x900007012 x900007013 x900007014 x900007015 x900007016 x900007017 x900007018 x900007019 x900007020 x900007021 x900007022 x900007023 x900007024 x900007025 x900007026 x900007027)) else (none)))))))) else (some 0)
def config_Check.j1 : Nat → Int → Bool → Int → Int → Int → Int → Int → Int → Int → Int → Int → Int → Int → Int → Int → Int → Int → Int → Int → Int → Int → Int → Int → Int → Int → Int → Int → Int → Int → Int → Int → Int → Int → Int → Int → Int → Int → Int → Int → Int → Int → Option (Int)
 | 0,_,_,_,_,_,_,_,_,_,_,_,_,_,_,_,_,_,_,_,_,_,_,_,_,_,_,_,_,_,_,_,_,_,_,_,_,_,_,_,_,_=>none
 | k + 1,x7,x11,x107000,x107001,x107002,x107003,x107004,x107005,x107006,x136000,x136001,x136002,x136003,x900007000,x900007001,x900007002,x900007003,x900007004,x900007005,x900007006,x900007007,x900007008,x900007009,x900007010,x900007011,x900007012,x900007013,x900007014,x900007015,x900007016,x900007017,x900007018,x900007019,x900007020,x900007021,x900007022,x900007023,x900007024,x900007025,x900007026,x900007027=>if x11 = true then (some 3) else (if x136000 > x136002 then (some 4) else (config_Check.l0 k (wrap64 (x7 + 1)) x107000 x107001 x107002 x107003 x107004 x107005 x107006 x900007000 x900007001 x900007002 x900007003 x900007004 x900007005 x900007006 x900007007 x900007008 x900007009 x900007010 x900007011 x900007012 x900007013 x900007014 x900007015 x900007016 x900007017 x900007018 x900007019 x900007020 x900007021 x900007022 x900007023 x900007024 x900007025 x900007026 x900007027))
def config_Check.j2 : Nat → Int → Bool → Int → Int → Int → Int → Int → Int → Int → Int → Int → Int → Int → Int → Int → Int → Int → Int → Int → Int → Int → Int → Int → Int → Int → Int → Int → Int → Int → Int → Int → Int → Int → Int → Int → Int → Int → Int → Int → Int → Int → Option (Int)
 | 0,_,_,_,_,_,_,_,_,_,_,_,_,_,_,_,_,_,_,_,_,_,_,_,_,_,_,_,_,_,_,_,_,_,_,_,_,_,_,_,_,_=>none
 | k + 1,x7,x11,x107000,x107001,x107002,x107003,x107004,x107005,x107006,x137000,x137001,x137002,x137003,x900007000,x900007001,x900007002,x900007003,x900007004,x900007005,x900007006,x900007007,x900007008,x900007009,x900007010,x900007011,x900007012,x900007013,x900007014,x900007015,x900007016,x900007017,x900007018,x900007019,x900007020,x900007021,x900007022,x900007023,x900007024,x900007025,x900007026,x900007027=>if x11 = true then (some 3) else (if x137000 > x137002 then (some 4) else (config_Check.l0 k (wrap64 (x7 + 1)) x107000 x107001 x107002 x107003 x107004 x107005 x107006 x900007000 x900007001 x900007002 x900007003 x900007004 x900007005 x900007006 x900007007 x900007008 x900007009 x900007010 x900007011 x900007012 x900007013 x900007014 x900007015 x900007016 x900007017 x900007018 x900007019 x900007020 x900007021 x900007022 x900007023 x900007024 x900007025 x900007026 x900007027))
def config_Check.j3 : Nat → Int → Bool → Int → Int → Int → Int → Int → Int → Int → Int → Int → Int → Int → Int → Int → Int → Int → Int → Int → Int → Int → Int → Int → Int → Int → Int → Int → Int → Int → Int → Int → Int → Int → Int → Int → Int → Int → Int → Int → Int → Int → Option (Int)
 | 0,_,_,_,_,_,_,_,_,_,_,_,_,_,_,_,_,_,_,_,_,_,_,_,_,_,_,_,_,_,_,_,_,_,_,_,_,_,_,_,_,_=>none
 | k + 1,x7,x11,x107000,x107001,x107002,x107003,x107004,x107005,x107006,x138000,x138001,x138002,x138003,x900007000,x900007001,x900007002,x900007003,x900007004,x900007005,x900007006,x900007007,x900007008,x900007009,x900007010,x900007011,x900007012,x900007013,x900007014,x900007015,x900007016,x900007017,x900007018,x900007019,x900007020,x900007021,x900007022,x900007023,x900007024,x900007025,x900007026,x900007027=>if x11 = true then (some 3) else (if x138000 > x138002 then (some 4) else (config_Check.l0 k (wrap64 (x7 + 1)) x107000 x107001 x107002 x107003 x107004 x107005 x107006 x900007000 x900007001 x900007002 x900007003 x900007004 x900007005 x900007006 x900007007 x900007008 x900007009 x900007010 x900007011 x900007012 x900007013 x900007014 x900007015 x900007016 x900007017 x900007018 x900007019 x900007020 x900007021 x900007022 x900007023 x900007024 x900007025 x900007026 x900007027))
def config_Check.j4 : Nat → Int → Bool → Int → Int → Int → Int → Int → Int → Int → Int → Int → Int → Int → Int → Int → Int → Int → Int → Int → Int → Int → Int → Int → Int → Int → Int → Int → Int → Int → Int → Int → Int → Int → Int → Int → Int → Int → Int → Int → Int → Int → Option (Int)
 | 0,_,_,_,_,_,_,_,_,_,_,_,_,_,_,_,_,_,_,_,_,_,_,_,_,_,_,_,_,_,_,_,_,_,_,_,_,_,_,_,_,_=>none
 | k + 1,x7,x11,x107000,x107001,x107002,x107003,x107004,x107005,x107006,x139000,x139001,x139002,x139003,x900007000,x900007001,x900007002,x900007003,x900007004,x900007005,x900007006,x900007007,x900007008,x900007009,x900007010,x900007011,x900007012,x900007013,x900007014,x900007015,x900007016,x900007017,x900007018,x900007019,x900007020,x900007021,x900007022,x900007023,x900007024,x900007025,x900007026,x900007027=>if x11 = true then (some 3) else (if x139000 > x139002 then (some 4) else (config_Check.l0 k (wrap64 (x7 + 1)) x107000 x107001 x107002 x107003 x107004 x107005 x107006 x900007000 x900007001 x900007002 x900007003 x900007004 x900007005 x900007006 x900007007 x900007008 x900007009 x900007010 x900007011 x900007012 x900007013 x900007014 x900007015 x900007016 x900007017 x900007018 x900007019 x900007020 x900007021 x900007022 x900007023 x900007024 x900007025 x900007026 x900007027))
def config_Check.j5 : Nat → Int → Bool → Int → Int → Int → Int → Int → Int → Int → Int → Int → Int → Int → Int → Int → Int → Int → Int → Int → Int → Int → Int → Int → Int → Int → Int → Int → Int → Int → Int → Int → Int → Int → Int → Int → Int → Int → Int → Int → Int → Int → Option (Int)
 | 0,_,_,_,_,_,_,_,_,_,_,_,_,_,_,_,_,_,_,_,_,_,_,_,_,_,_,_,_,_,_,_,_,_,_,_,_,_,_,_,_,_=>none
 | k + 1,x7,x11,x107000,x107001,x107002,x107003,x107004,x107005,x107006,x140000,x140001,x140002,x140003,x900007000,x900007001,x900007002,x900007003,x900007004,x900007005,x900007006,x900007007,x900007008,x900007009,x900007010,x900007011,x900007012,x900007013,x900007014,x900007015,x900007016,x900007017,x900007018,x900007019,x900007020,x900007021,x900007022,x900007023,x900007024,x900007025,x900007026,x900007027=>if x11 = true then (some 3) else (if x140000 > x140002 then (some 4) else (config_Check.l0 k (wrap64 (x7 + 1)) x107000 x107001 x107002 x107003 x107004 x107005 x107006 x900007000 x900007001 x900007002 x900007003 x900007004 x900007005 x900007006 x900007007 x900007008 x900007009 x900007010 x900007011 x900007012 x900007013 x900007014 x900007015 x900007016 x900007017 x900007018 x900007019 x900007020 x900007021 x900007022 x900007023 x900007024 x900007025 x900007026 x900007027))
def config_Check.j6 : Nat → Int → Bool → Int → Int → Int → Int → Int → Int → Int → Int → Int → Int → Int → Int → Int → Int → Int → Int → Int → Int → Int → Int → Int → Int → Int → Int → Int → Int → Int → Int → Int → Int → Int → Int → Int → Int → Int → Int → Int → Int → Int → Option (Int)
 | 0,_,_,_,_,_,_,_,_,_,_,_,_,_,_,_,_,_,_,_,_,_,_,_,_,_,_,_,_,_,_,_,_,_,_,_,_,_,_,_,_,_=>none
 | k + 1,x7,x11,x107000,x107001,x107002,x107003,x107004,x107005,x107006,x141000,x141001,x141002,x141003,x900007000,x900007001,x900007002,x900007003,x900007004,x900007005,x900007006,x900007007,x900007008,x900007009,x900007010,x900007011,x900007012,x900007013,x900007014,x900007015,x900007016,x900007017,x900007018,x900007019,x900007020,x900007021,x900007022,x900007023,x900007024,x900007025,x900007026,x900007027=>if x11 = true then (some 3) else (if x141000 > x141002 then (some 4) else (config_Check.l0 k (wrap64 (x7 + 1)) x107000 x107001 x107002 x107003 x107004 x107005 x107006 x900007000 x900007001 x900007002 x900007003 x900007004 x900007005 x900007006 x900007007 x900007008 x900007009 x900007010 x900007011 x900007012 x900007013 x900007014 x900007015 x900007016 x900007017 x900007018 x900007019 x900007020 x900007021 x900007022 x900007023 x900007024 x900007025 x900007026 x900007027))
def config_Check.j7 : Nat → Int → Bool → Int → Int → Int → Int → Int → Int → Int → Int → Int → Int → Int → Int → Int → Int → Int → Int → Int → Int → Int → Int → Int → Int → Int → Int → Int → Int → Int → Int → Int → Int → Int → Int → Int → Int → Int → Int → Int → Int → Int → Option (Int)
 | 0,_,_,_,_,_,_,_,_,_,_,_,_,_,_,_,_,_,_,_,_,_,_,_,_,_,_,_,_,_,_,_,_,_,_,_,_,_,_,_,_,_=>none
 | k + 1,x7,x11,x107000,x107001,x107002,x107003,x107004,x107005,x107006,x142000,x142001,x142002,x142003,x900007000,x900007001,x900007002,x900007003,x900007004,x900007005,x900007006,x900007007,x900007008,x900007009,x900007010,x900007011,x900007012,x900007013,x900007014,x900007015,x900007016,x900007017,x900007018,x900007019,x900007020,x900007021,x900007022,x900007023,x900007024,x900007025,x900007026,x900007027=>if x11 = true then (some 3) else (if x142000 > x142002 then (some 4) else (config_Check.l0 k (wrap64 (x7 + 1)) x107000 x107001 x107002 x107003 x107004 x107005 x107006 x900007000 x900007001 x900007002 x900007003 x900007004 x900007005 x900007006 x900007007 x900007008 x900007009 x900007010 x900007011 x900007012 x900007013 x900007014 x900007015 x900007016 x900007017 x900007018 x900007019 x900007020 x900007021 x900007022 x900007023 x900007024 x900007025 x900007026 x900007027))
end
def config_Check.f (k : Nat) (a0_0 : Int) (a0_1 : Int) (a0_2 : Int) (a0_3 : Int) (a0_4 : Int) (a0_5 : Int) (a0_6 : Int) : Option (Int):=(config_fields.f a0_0 a0_1 a0_2 a0_3 a0_4 a0_5 a0_6).bind fun bt107=>(config_Check.l0 k 0 a0_0 a0_1 a0_2 a0_3 a0_4 a0_5 a0_6 bt107.1 bt107.2.1 bt107.2.2.1 bt107.2.2.2.1 bt107.2.2.2.2.1 bt107.2.2.2.2.2.1 bt107.2.2.2.2.2.2.1 bt107.2.2.2.2.2.2.2.1 bt107.2.2.2.2.2.2.2.2.1 bt107.2.2.2.2.2.2.2.2.2.1 bt107.2.2.2.2.2.2.2.2.2.2.1 bt107.2.2.2.2.2.2.2.2.2.2.2.1 bt107.2.2.2.2.2.2.2.2.2.2.2.2.1 bt107.2.2.2.2.2.2.2.2.2.2.2.2.2.1 bt107.2.2.2.2.2.2.2.2.2.2.2.2.2.2.1 bt107.2.2.2.2.2.2.2.2.2.2.2.2.2.2.2.1 bt107.2.2.2.2.2.2.2.2.2.2.2.2.2.2.2.2.1 bt107.2.2.2.2.2.2.2.2.2.2.2.2.2.2.2.2.2.1 bt107.2.2.2.2.2.2.2.2.2.2.2.2.2.2.2.2.2.2.1 bt107.2.2.2.2.2.2.2.2.2.2.2.2.2.2.2.2.2.2.2.1 bt107.2.2.2.2.2.2.2.2.2.2.2.2.2.2.2.2.2.2.2.2.1 bt107.2.2.2.2.2.2.2.2.2.2.2.2.2.2.2.2.2.2.2.2.2.1 bt107.2.2.2.2.2.2.2.2.2.2.2.2.2.2.2.2.2.2.2.2.2.2.1 bt107.2.2.2.2.2.2.2.2.2.2.2.2.2.2.2.2.2.2.2.2.2.2.2.1 bt107.2.2.2.2.2.2.2.2.2.2.2.2.2.2.2.2.2.2.2.2.2.2.2.2.1 bt107.2.2.2.2.2.2.2.2.2.2.2.2.2.2.2.2.2.2.2.2.2.2.2.2.2.1 bt107.2.2.2.2.2.2.2.2.2.2.2.2.2.2.2.2.2.2.2.2.2.2.2.2.2.2.1 bt107.2.2.2.2.2.2.2.2.2.2.2.2.2.2.2.2.2.2.2.2.2.2.2.2.2.2.2)
theorem config_Check.mono_l : ∀ k,(∀ y0 y1 y2 y3 y4 y5 y6 y7 y8 y9 y10 y11 y12 y13 y14 y15 y16 y17 y18 y19 y20 y21 y22 y23 y24 y25 y26 y27 y28 y29 y30 y31 y32 y33 y34 y35,LeO (config_Check.l0 k y0 y1 y2 y3 y4 y5 y6 y7 y8 y9 y10 y11 y12 y13 y14 y15 y16 y17 y18 y19 y20 y21 y22 y23 y24 y25 y26 y27 y28 y29 y30 y31 y32 y33 y34 y35) (config_Check.l0 (k + 1) y0 y1 y2 y3 y4 y5 y6 y7 y8 y9 y10 y11 y12 y13 y14 y15 y16 y17 y18 y19 y20 y21 y22 y23 y24 y25 y26 y27 y28 y29 y30 y31 y32 y33 y34 y35)) ∧ (∀ y0 y1 y2 y3 y4 y5 y6 y7 y8 y9 y10 y11 y12 y13 y14 y15 y16 y17 y18 y19 y20 y21 y22 y23 y24 y25 y26 y27 y28 y29 y30 y31 y32 y33 y34 y35 y36 y37 y38 y39 y40,LeO (config_Check.j1 k y0 y1 y2 y3 y4 y5 y6 y7 y8 y9 y10 y11 y12 y13 y14 y15 y16 y17 y18 y19 y20 y21 y22 y23 y24 y25 y26 y27 y28 y29 y30 y31 y32 y33 y34 y35 y36 y37 y38 y39 y40) (config_Check.j1 (k + 1) y0 y1 y2 y3 y4 y5 y6 y7 y8 y9 y10 y11 y12 y13 y14 y15 y16 y17 y18 y19 y20 y21 y22 y23 y24 y25 y26 y27 y28 y29 y30 y31 y32 y33 y34 y35 y36 y37 y38 y39 y40)) ∧ (∀ y0 y1 y2 y3 y4 y5 y6 y7 y8 y9 y10 y11 y12 y13 y14 y15 y16 y17 y18 y19 y20 y21 y22 y23 y24 y25 y26 y27 y28 y29 y30 y31 y32 y33 y34 y35 y36 y37 y38 y39 y40,LeO (config_Check.j2 k y0 y1 y2 y3 y4 y5 y6 y7 y8 y9 y10 y11 y12 y13 y14 y15 y16 y17 y18 y19 y20 y21 y22 y23 y24 y25 y26 y27 y28 y29 y30 y31 y32 y33 y34 y35 y36 y37 y38 y39 y40) (config_Check.j2 (k + 1) y0 y1 y2 y3 y4 y5 y6 y7 y8 y9 y10 y11 y12 y13 y14 y15 y16 y17 y18 y19 y20 y21 y22 y23 y24 y25 y26 y27 y28 y29 y30 y31 y32 y33 y34 y35 y36 y37 y38 y39 y40)) ∧ (∀ y0 y1 y2 y3 y4 y5 y6 y7 y8 y9 y10 y11 y12 y13 y14 y15 y16 y17 y18 y19 y20 y21 y22 y23 y24 y25 y26 y27 y28 y29 y30 y31 y32 y33 y34 y35 y36 y37 y38 y39 y40,LeO (config_Check.j3 k y0 y1 y2 y3 y4 y5 y6 y7 y8 y9 y10 y11 y12 y13 y14 y15 y16 y17 y18 y19 y20 y21 y22 y23 y24 y25 y26 y27 y28 y29 y30 y31 y32 y33 y34 y35 y36 y37 y38 y39 y40) (config_Check.j3 (k + 1) y0 y1 y2 y3 y4 y5 y6 y7 y8 y9 y10 y11 y12 y13 y14 y15 y16 y17 y18 y19 y20 y21 y22 y23 y24 y25 y26 y27 y28 y29 y30 y31 y32 y33 y34 y35 y36 y37 y38 y39 y40)) ∧ (∀ y0 y1 y2 y3 y4 y5 y6 y7 y8 y9 y10 y11 y12 y13 y14 y15 y16 y17 y18 y19 y20 y21 y22 y23 y24 y25 y26 y27 y28 y29 y30 y31 y32 y33 y34 y35 y36 y37 y38 y39 y40,LeO (config_Check.j4 k y0 y1 y2 y3 y4 y5 y6 y7 y8 y9 y10 y11 y12 y13 y14 y15 y16 y17 y18 y19 y20 y21 y22 y23 y24 y25 y26 y27 y28 y29 y30 y31 y32 y33 y34 y35 y36 y37 y38 y39 y40) (config_Check.j4 (k + 1) y0 y1 y2 y3 y4 y5 y6 y7 y8 y9 y10 y11 y12 y13 y14 y15 y16 y17 y18 y19 y20 y21 y22 y23 y24 y25 y26 y27 y28 y29 y30 y31 y32 y33 y34 y35 y36 y37 y38 y39 y40)) ∧ (∀ y0 y1 y2 y3 y4 y5 y6 y7 y8 y9 y10 y11 y12 y13 y14 y15 y16 y17 y18 y19 y20 y21 y22 y23 y24 y25 y26 y27 y28 y29 y30 y31 y32 y33 y34 y35 y36 y37 y38 y39 y40,LeO (config_Check.j5 k y0 y1 y2 y3 y4 y5 y6 y7 y8 y9 y10 y11 y12 y13 y14 y15 y16 y17 y18 y19 y20 y21 y22 y23 y24 y25 y26 y27 y28 y29 y30 y31 y32 y33 y34 y35 y36 y37 y38 y39 y40) (config_Check.j5 (k + 1) y0 y1 y2 y3 y4 y5 y6 y7 y8 y9 y10 y11 y12 y13 y14 y15 y16 y17 y18 y19 y20 y21 y22 y23 y24 y25 y26 y27 y28 y29 y30 y31 y32 y33 y34 y35 y36 y37 y38 y39 y40)) ∧ (∀ y0 y1 y2 y3 y4 y5 y6 y7 y8 y9 y10 y11 y12 y13 y14 y15 y16 y17 y18 y19 y20 y21 y22 y23 y24 y25 y26 y27 y28 y29 y30 y31 y32 y33 y34 y35 y36 y37 y38 y39 y40,LeO (config_Check.j6 k y0 y1 y2 y3 y4 y5 y6 y7 y8 y9 y10 y11 y12 y13 y14 y15 y16 y17 y18 y19 y20 y21 y22 y23 y24 y25 y26 y27 y28 y29 y30 y31 y32 y33 y34 y35 y36 y37 y38 y39 y40) (config_Check.j6 (k + 1) y0 y1 y2 y3 y4 y5 y6 y7 y8 y9 y10 y11 y12 y13 y14 y15 y16 y17 y18 y19 y20 y21 y22 y23 y24 y25 y26 y27 y28 y29 y30 y31 y32 y33 y34 y35 y36 y37 y38 y39 y40)) ∧ (∀ y0 y1 y2 y3 y4 y5 y6 y7 y8 y9 y10 y11 y12 y13 y14 y15 y16 y17 y18 y19 y20 y21 y22 y23 y24 y25 y26 y27 y28 y29 y30 y31 y32 y33 y34 y35 y36 y37 y38 y39 y40,LeO (config_Check.j7 k y0 y1 y2 y3 y4 y5 y6 y7 y8 y9 y10 y11 y12 y13 y14 y15 y16 y17 y18 y19 y20 y21 y22 y23 y24 y25 y26 y27 y28 y29 y30 y31 y32 y33 y34 y35 y36 y37 y38 y39 y40) (config_Check.j7 (k + 1) y0 y1 y2 y3 y4 y5 y6 y7 y8 y9 y10 y11 y12 y13 y14 y15 y16 y17 y18 y19 y20 y21 y22 y23 y24 y25 y26 y27 y28 y29 y30 y31 y32 y33 y34 y35 y36 y37 y38 y39 y40))
 | 0=>⟨fun _ _ _ _ _ _ _ _ _ _ _ _ _ _ _ _ _ _ _ _ _ _ _ _ _ _ _ _ _ _ _ _ _ _ _ _ r h=>by simp [config_Check.l0] at h,fun _ _ _ _ _ _ _ _ _ _ _ _ _ _ _ _ _ _ _ _ _ _ _ _ _ _ _ _ _ _ _ _ _ _ _ _ _ _ _ _ _ r h=>by simp [config_Check.j1] at h,fun _ _ _ _ _ _ _ _ _ _ _ _ _ _ _ _ _ _ _ _ _ _ _ _ _ _ _ _ _ _ _ _ _ _ _ _ _ _ _ _ _ r h=>by simp [config_Check.j2] at h,fun _ _ _ _ _ _ _ _ _ _ _ _ _ _ _ _ _ _ _ _ _ _ _ _ _ _ _ _ _ _ _ _ _ _ _ _ _ _ _ _ _ r h=>by simp [config_Check.j3] at h,fun _ _ _ _ _ _ _ _ _ _ _ _ _ _ _ _ _ _ _ _ _ _ _ _ _ _ _ _ _ _ _ _ _ _ _ _ _ _ _ _ _ r h=>by simp [config_Check.j4] at h,fun _ _ _ _ _ _ _ _ _ _ _ _ _ _ _ _ _ _ _ _ _ _ _ _ _ _ _ _ _ _ _ _ _ _ _ _ _ _ _ _ _ r h=>by simp [config_Check.j5] at h,fun _ _ _ _ _ _ _ _ _ _ _ _ _ _ _ _ _ _ _ _ _ _ _ _ _ _ _ _ _ _ _ _ _ _ _ _ _ _ _ _ _ r h=>by simp [config_Check.j6] at h,fun _ _ _ _ _ _ _ _ _ _ _ _ _ _ _ _ _ _ _ _ _ _ _ _ _ _ _ _ _ _ _ _ _ _ _ _ _ _ _ _ _ r h=>by simp [config_Check.j7] at h⟩
 | k + 1=>by
  obtain ⟨ih0,ih1,ih2,ih3,ih4,ih5,ih6,ih7⟩:=config_Check.mono_l k
  refine ⟨?_,?_,?_,?_,?_,?_,?_,?_⟩
  ·intro y0 y1 y2 y3 y4 y5 y6 y7 y8 y9 y10 y11 y12 y13 y14 y15 y16 y17 y18 y19 y20 y21 y22 y23 y24 y25 y26 y27 y28 y29 y30 y31 y32 y33 y34 y35
   unfold config_Check.l0
   repeat' first
   | (with_reducible exact ih0 _ _ _ _ _ _ _ _ _ _ _ _ _ _ _ _ _ _ _ _ _ _ _ _ _ _ _ _ _ _ _ _ _ _ _ _)
   | (with_reducible exact ih1 _ _ _ _ _ _ _ _ _ _ _ _ _ _ _ _ _ _ _ _ _ _ _ _ _ _ _ _ _ _ _ _ _ _ _ _ _ _ _ _ _)
   | (with_reducible exact ih2 _ _ _ _ _ _ _ _ _ _ _ _ _ _ _ _ _ _ _ _ _ _ _ _ _ _ _ _ _ _ _ _ _ _ _ _ _ _ _ _ _)
   | (with_reducible exact ih3 _ _ _ _ _ _ _ _ _ _ _ _ _ _ _ _ _ _ _ _ _ _ _ _ _ _ _ _ _ _ _ _ _ _ _ _ _ _ _ _ _)
   | (with_reducible exact ih4 _ _ _ _ _ _ _ _ _ _ _ _ _ _ _ _ _ _ _ _ _ _ _ _ _ _ _ _ _ _ _ _ _ _ _ _ _ _ _ _ _)
   | (with_reducible exact ih5 _ _ _ _ _ _ _ _ _ _ _ _ _ _ _ _ _ _ _ _ _ _ _ _ _ _ _ _ _ _ _ _ _ _ _ _ _ _ _ _ _)
   | (with_reducible exact ih6 _ _ _ _ _ _ _ _ _ _ _ _ _ _ _ _ _ _ _ _ _ _ _ _ _ _ _ _ _ _ _ _ _ _ _ _ _ _ _ _ _)
   | (with_reducible exact ih7 _ _ _ _ _ _ _ _ _ _ _ _ _ _ _ _ _ _ _ _ _ _ _ _ _ _ _ _ _ _ _ _ _ _ _ _ _ _ _ _ _)
   | (with_reducible exact LeO.refl _)
   | (with_reducible exact LeO.none _)
   | (with_reducible refine LeO.ite ?_ ?_)
   | (with_reducible refine LeO.bind ?_ (fun _=>?_))
   | exact ih0 _ _ _ _ _ _ _ _ _ _ _ _ _ _ _ _ _ _ _ _ _ _ _ _ _ _ _ _ _ _ _ _ _ _ _ _
   | exact ih1 _ _ _ _ _ _ _ _ _ _ _ _ _ _ _ _ _ _ _ _ _ _ _ _ _ _ _ _ _ _ _ _ _ _ _ _ _ _ _ _ _
   | exact ih2 _ _ _ _ _ _ _ _ _ _ _ _ _ _ _ _ _ _ _ _ _ _ _ _ _ _ _ _ _ _ _ _ _ _ _ _ _ _ _ _ _
   | exact ih3 _ _ _ _ _ _ _ _ _ _ _ _ _ _ _ _ _ _ _ _ _ _ _ _ _ _ _ _ _ _ _ _ _ _ _ _ _ _ _ _ _
   | exact ih4 _ _ _ _ _ _ _ _ _ _ _ _ _ _ _ _ _ _ _ _ _ _ _ _ _ _ _ _ _ _ _ _ _ _ _ _ _ _ _ _ _
   | exact ih5 _ _ _ _ _ _ _ _ _ _ _ _ _ _ _ _ _ _ _ _ _ _ _ _ _ _ _ _ _ _ _ _ _ _ _ _ _ _ _ _ _
   | exact ih6 _ _ _ _ _ _ _ _ _ _ _ _ _ _ _ _ _ _ _ _ _ _ _ _ _ _ _ _ _ _ _ _ _ _ _ _ _ _ _ _ _
   | exact ih7 _ _ _ _ _ _ _ _ _ _ _ _ _ _ _ _ _ _ _ _ _ _ _ _ _ _ _ _ _ _ _ _ _ _ _ _ _ _ _ _ _
   | exact LeO.none _
   | refine LeO.ite ?_ ?_
   | refine LeO.bind ?_ (fun _=>?_)
  ·intro y0 y1 y2 y3 y4 y5 y6 y7 y8 y9 y10 y11 y12 y13 y14 y15 y16 y17 y18 y19 y20 y21 y22 y23 y24 y25 y26 y27 y28 y29 y30 y31 y32 y33 y34 y35 y36 y37 y38 y39 y40
   unfold config_Check.j1
   repeat' first
   | (with_reducible exact ih0 _ _ _ _ _ _ _ _ _ _ _ _ _ _ _ _ _ _ _ _ _ _ _ _ _ _ _ _ _ _ _ _ _ _ _ _)
   | (with_reducible exact ih1 _ _ _ _ _ _ _ _ _ _ _ _ _ _ _ _ _ _ _ _ _ _ _ _ _ _ _ _ _ _ _ _ _ _ _ _ _ _ _ _ _)
   | (with_reducible exact ih2 _ _ _ _ _ _ _ _ _ _ _ _ _ _ _ _ _ _ _ _ _ _ _ _ _ _ _ _ _ _ _ _ _ _ _ _ _ _ _ _ _)
   | (with_reducible exact ih3 _ _ _ _ _ _ _ _ _ _ _ _ _ _ _ _ _ _ _ _ _ _ _ _ _ _ _ _ _ _ _ _ _ _ _ _ _ _ _ _ _)
   | (with_reducible exact ih4 _ _ _ _ _ _ _ _ _ _ _ _ _ _ _ _ _ _ _ _ _ _ _ _ _ _ _ _ _ _ _ _ _ _ _ _ _ _ _ _ _)
   | (with_reducible exact ih5 _ _ _ _ _ _ _ _ _ _ _ _ _ _ _ _ _ _ _ _ _ _ _ _ _ _ _ _ _ _ _ _ _ _ _ _ _ _ _ _ _)
   | (with_reducible exact ih6 _ _ _ _ _ _ _ _ _ _ _ _ _ _ _ _ _ _ _ _ _ _ _ _ _ _ _ _ _ _ _ _ _ _ _ _ _ _ _ _ _)
   | (with_reducible exact ih7 _ _ _ _ _ _ _ _ _ _ _ _ _ _ _ _ _ _ _ _ _ _ _ _ _ _ _ _ _ _ _ _ _ _ _ _ _ _ _ _ _)
   | (with_reducible exact LeO.refl _)
   | (with_reducible exact LeO.none _)
   | (with_reducible refine LeO.ite ?_ ?_)
   | (with_reducible refine LeO.bind ?_ (fun _=>?_))
   | exact ih0 _ _ _ _ _ _ _ _ _ _ _ _ _ _ _ _ _ _ _ _ _ _ _ _ _ _ _ _ _ _ _ _ _ _ _ _
   | exact ih1 _ _ _ _ _ _ _ _ _ _ _ _ _ _ _ _ _ _ _ _ _ _ _ _ _ _ _ _ _ _ _ _ _ _ _ _ _ _ _ _ _
   | exact ih2 _ _ _ _ _ _ _ _ _ _ _ _ _ _ _ _ _ _ _ _ _ _ _ _ _ _ _ _ _ _ _ _ _ _ _ _ _ _ _ _ _
   | exact ih3 _ _ _ _ _ _ _ _ _ _ _ _ _ _ _ _ _ _ _ _ _ _ _ _ _ _ _ _ _ _ _ _ _ _ _ _ _ _ _ _ _
   | exact ih4 _ _ _ _ _ _ _ _ _ _ _ _ _ _ _ _ _ _ _ _ _ _ _ _ _ _ _ _ _ _ _ _ _ _ _ _ _ _ _ _ _
   | exact ih5 _ _ _ _ _ _ _ _ _ _ _ _ _ _ _ _ _ _ _ _ _ _ _ _ _ _ _ _ _ _ _ _ _ _ _ _ _ _ _ _ _
   | exact ih6 _ _ _ _ _ _ _ _ _ _ _ _ _ _ _ _ _ _ _ _ _ _ _ _ _ _ _ _ _ _ _ _ _ _ _ _ _ _ _ _ _
   | exact ih7 _ _ _ _ _ _ _ _ _ _ _ _ _ _ _ _ _ _ _ _ _ _ _ _ _ _ _ _ _ _ _ _ _ _ _ _ _ _ _ _ _
   | exact LeO.none _
   | refine LeO.ite ?_ ?_
   | refine LeO.bind ?_ (fun _=>?_)
  ·intro y0 y1 y2 y3 y4 y5 y6 y7 y8 y9 y10 y11 y12 y13 y14 y15 y16 y17 y18 y19 y20 y21 y22 y23 y24 y25 y26 y27 y28 y29 y30 y31 y32 y33 y34 y35 y36 y37 y38 y39 y40
   unfold config_Check.j2
   repeat' first
   | (with_reducible exact ih0 _ _ _ _ _ _ _ _ _ _ _ _ _ _ _ _ _ _ _ _ _ _ _ _ _ _ _ _ _ _ _ _ _ _ _ _)
   | (with_reducible exact ih1 _ _ _ _ _ _ _ _ _ _ _ _ _ _ _ _ _ _ _ _ _ _ _ _ _ _ _ _ _ _ _ _ _ _ _ _ _ _ _ _ _)
   | (with_reducible exact ih2 _ _ _ _ _ _ _ _ _ _ _ _ _ _ _ _ _ _ _ _ _ _ _ _ _ _ _ _ _ _ _ _ _ _ _ _ _ _ _ _ _)
   | (with_reducible exact ih3 _ _ _ _ _ _ _ _ _ _ _ _ _ _ _ _ _ _ _ _ _ _ _ _ _ _ _ _ _ _ _ _ _ _ _ _ _ _ _ _ _)
   | (with_reducible exact ih4 _ _ _ _ _ _ _ _ _ _ _ _ _ _ _ _ _ _ _ _ _ _ _ _ _ _ _ _ _ _ _ _ _ _ _ _ _ _ _ _ _)
   | (with_reducible exact ih5 _ _ _ _ _ _ _ _ _ _ _ _ _ _ _ _ _ _ _ _ _ _ _ _ _ _ _ _ _ _ _ _ _ _ _ _ _ _ _ _ _)
   | (with_reducible exact ih6 _ _ _ _ _ _ _ _ _ _ _ _ _ _ _ _ _ _ _ _ _ _ _ _ _ _ _ _ _ _ _ _ _ _ _ _ _ _ _ _ _)
   | (with_reducible exact ih7 _ _ _ _ _ _ _ _ _ _ _ _ _ _ _ _ _ _ _ _ _ _ _ _ _ _ _ _ _ _ _ _ _ _ _ _ _ _ _ _ _)
   | (with_reducible exact LeO.refl _)
   | (with_reducible exact LeO.none _)
   | (with_reducible refine LeO.ite ?_ ?_)
   | (with_reducible refine LeO.bind ?_ (fun _=>?_))
   | exact ih0 _ _ _ _ _ _ _ _ _ _ _ _ _ _ _ _ _ _ _ _ _ _ _ _ _ _ _ _ _ _ _ _ _ _ _ _
   | exact ih1 _ _ _ _ _ _ _ _ _ _ _ _ _ _ _ _ _ _ _ _ _ _ _ _ _ _ _ _ _ _ _ _ _ _ _ _ _ _ _ _ _
   | exact ih2 _ _ _ _ _ _ _ _ _ _ _ _ _ _ _ _ _ _ _ _ _ _ _ _ _ _ _ _ _ _ _ _ _ _ _ _ _ _ _ _ _
   | exact ih3 _ _ _ _ _ _ _ _ _ _ _ _ _ _ _ _ _ _ _ _ _ _ _ _ _ _ _ _ _ _ _ _ _ _ _ _ _ _ _ _ _
   | exact ih4 _ _ _ _ _ _ _ _ _ _ _ _ _ _ _ _ _ _ _ _ _ _ _ _ _ _ _ _ _ _ _ _ _ _ _ _ _ _ _ _ _
   | exact ih5 _ _ _ _ _ _ _ _ _ _ _ _ _ _ _ _ _ _ _ _ _ _ _ _ _ _ _ _ _ _ _ _ _ _ _ _ _ _ _ _ _
   | exact ih6 _ _ _ _ _ _ _ _ _ _ _ _ _ _ _ _ _ _ _ _ _ _ _ _ _ _ _ _ _ _ _ _ _ _ _ _ _ _ _ _ _
   | exact ih7 _ _ _ _ _ _ _ _ _ _ _ _ _ _ _ _ _ _ _ _ _ _ _ _ _ _ _ _ _ _ _ _ _ _ _ _ _ _ _ _ _
   | exact LeO.none _
   | refine LeO.ite ?_ ?_
   | refine LeO.bind ?_ (fun _=>?_)
  ·intro y0 y1 y2 y3 y4 y5 y6 y7 y8 y9 y10 y11 y12 y13 y14 y15 y16 y17 y18 y19 y20 y21 y22 y23 y24 y25 y26 y27 y28 y29 y30 y31 y32 y33 y34 y35 y36 y37 y38 y39 y40
   unfold config_Check.j3
   repeat' first
   | (with_reducible exact ih0 _ _ _ _ _ _ _ _ _ _ _ _ _ _ _ _ _ _ _ _ _ _ _ _ _ _ _ _ _ _ _ _ _ _ _ _)
   | (with_reducible exact ih1 _ _ _ _ _ _ _ _ _ _ _ _ _ _ _ _ _ _ _ _ _ _ _ _ _ _ _ _ _ _ _ _ _ _ _ _ _ _ _ _ _)
   | (with_reducible exact ih2 _ _ _ _ _ _ _ _ _ _ _ _ _ _ _ _ _ _ _ _ _ _ _ _ _ _ _ _ _ _ _ _ _ _ _ _ _ _ _ _ _)
   | (with_reducible exact ih3 _ _ _ _ _ _ _ _ _ _ _ _ _ _ _ _ _ _ _ _ _ _ _ _ _ _ _ _ _ _ _ _ _ _ _ _ _ _ _ _ _)
   | (with_reducible exact ih4 _ _ _ _ _ _ _ _ _ _ _ _ _ _ _ _ _ _ _ _ _ _ _ _ _ _ _ _ _ _ _ _ _ _ _ _ _ _ _ _ _)
   | (with_reducible exact ih5 _ _ _ _ _ _ _ _ _ _ _ _ _ _ _ _ _ _ _ _ _ _ _ _ _ _ _ _ _ _ _ _ _ _ _ _ _ _ _ _ _)
   | (with_reducible exact ih6 _ _ _ _ _ _ _ _ _ _ _ _ _ _ _ _ _ _ _ _ _ _ _ _ _ _ _ _ _ _ _ _ _ _ _ _ _ _ _ _ _)
   | (with_reducible exact ih7 _ _ _ _ _ _ _ _ _ _ _ _ _ _ _ _ _ _ _ _ _ _ _ _ _ _ _ _ _ _ _ _ _ _ _ _ _ _ _ _ _)
   | (with_reducible exact LeO.refl _)
   | (with_reducible exact LeO.none _)
   | (with_reducible refine LeO.ite ?_ ?_)
   | (with_reducible refine LeO.bind ?_ (fun _=>?_))
   | exact ih0 _ _ _ _ _ _ _ _ _ _ _ _ _ _ _ _ _ _ _ _ _ _ _ _ _ _ _ _ _ _ _ _ _ _ _ _
   | exact ih1 _ _ _ _ _ _ _ _ _ _ _ _ _ _ _ _ _ _ _ _ _ _ _ _ _ _ _ _ _ _ _ _ _ _ _ _ _ _ _ _ _
   | exact ih2 _ _ _ _ _ _ _ _ _ _ _ _ _ _ _ _ _ _ _ _ _ _ _ _ _ _ _ _ _ _ _ _ _ _ _ _ _ _ _ _ _
   | exact ih3 _ _ _ _ _ _ _ _ _ _ _ _ _ _ _ _ _ _ _ _ _ _ _ _ _ _ _ _ _ _ _ _ _ _ _ _ _ _ _ _ _
   | exact ih4 _ _ _ _ _ _ _ _ _ _ _ _ _ _ _ _ _ _ _ _ _ _ _ _ _ _ _ _ _ _ _ _ _ _ _ _ _ _ _ _ _
   | exact ih5 _ _ _ _ _ _ _ _ _ _ _ _ _ _ _ _ _ _ _ _ _ _ _ _ _ _ _ _ _ _ _ _ _ _ _ _ _ _ _ _ _
   | exact ih6 _ _ _ _ _ _ _ _ _ _ _ _ _ _ _ _ _ _ _ _ _ _ _ _ _ _ _ _ _ _ _ _ _ _ _ _ _ _ _ _ _
   | exact ih7 _ _ _ _ _ _ _ _ _ _ _ _ _ _ _ _ _ _ _ _ _ _ _ _ _ _ _ _ _ _ _ _ _ _ _ _ _ _ _ _ _
   | exact LeO.none _
   | refine LeO.ite ?_ ?_
   | refine LeO.bind ?_ (fun _=>?_)
  ·intro y0 y1 y2 y3 y4 y5 y6 y7 y8 y9 y10 y11 y12 y13 y14 y15 y16 y17 y18 y19 y20 y21 y22 y23 y24 y25 y26 y27 y28 y29 y30 y31 y32 y33 y34 y35 y36 y37 y38 y39 y40
   unfold config_Check.j4
   repeat' first
   | (with_reducible exact ih0 _ _ _ _ _ _ _ _ _ _ _ _ _ _ _ _ _ _ _ _ _ _ _ _ _ _ _ _ _ _ _ _ _ _ _ _)
   | (with_reducible exact ih1 _ _ _ _ _ _ _ _ _ _ _ _ _ _ _ _ _ _ _ _ _ _ _ _ _ _ _ _ _ _ _ _ _ _ _ _ _ _ _ _ _)
   | (with_reducible exact ih2 _ _ _ _ _ _ _ _ _ _ _ _ _ _ _ _ _ _ _ _ _ _ _ _ _ _ _ _ _ _ _ _ _ _ _ _ _ _ _ _ _)
   | (with_reducible exact ih3 _ _ _ _ _ _ _ _ _ _ _ _ _ _ _ _ _ _ _ _ _ _ _ _ _ _ _ _ _ _ _ _ _ _ _ _ _ _ _ _ _)
   | (with_reducible exact ih4 _ _ _ _ _ _ _ _ _ _ _ _ _ _ _ _ _ _ _ _ _ _ _ _ _ _ _ _ _ _ _ _ _ _ _ _ _ _ _ _ _)
   | (with_reducible exact ih5 _ _ _ _ _ _ _ _ _ _ _ _ _ _ _ _ _ _ _ _ _ _ _ _ _ _ _ _ _ _ _ _ _ _ _ _ _ _ _ _ _)
   | (with_reducible exact ih6 _ _ _ _ _ _ _ _ _ _ _ _ _ _ _ _ _ _ _ _ _ _ _ _ _ _ _ _ _ _ _ _ _ _ _ _ _ _ _ _ _)
   | (with_reducible exact ih7 _ _ _ _ _ _ _ _ _ _ _ _ _ _ _ _ _ _ _ _ _ _ _ _ _ _ _ _ _ _ _ _ _ _ _ _ _ _ _ _ _)
   | (with_reducible exact LeO.refl _)
   | (with_reducible exact LeO.none _)
   | (with_reducible refine LeO.ite ?_ ?_)
   | (with_reducible refine LeO.bind ?_ (fun _=>?_))
   | exact ih0 _ _ _ _ _ _ _ _ _ _ _ _ _ _ _ _ _ _ _ _ _ _ _ _ _ _ _ _ _ _ _ _ _ _ _ _
   | exact ih1 _ _ _ _ _ _ _ _ _ _ _ _ _ _ _ _ _ _ _ _ _ _ _ _ _ _ _ _ _ _ _ _ _ _ _ _ _ _ _ _ _
   | exact ih2 _ _ _ _ _ _ _ _ _ _ _ _ _ _ _ _ _ _ _ _ _ _ _ _ _ _ _ _ _ _ _ _ _ _ _ _ _ _ _ _ _
   | exact ih3 _ _ _ _ _ _ _ _ _ _ _ _ _ _ _ _ _ _ _ _ _ _ _ _ _ _ _ _ _ _ _ _ _ _ _ _ _ _ _ _ _
   | exact ih4 _ _ _ _ _ _ _ _ _ _ _ _ _ _ _ _ _ _ _ _ _ _ _ _ _ _ _ _ _ _ _ _ _ _ _ _ _ _ _ _ _
   | exact ih5 _ _ _ _ _ _ _ _ _ _ _ _ _ _ _ _ _ _ _ _ _ _ _ _ _ _ _ _ _ _ _ _ _ _ _ _ _ _ _ _ _
   | exact ih6 _ _ _ _ _ _ _ _ _ _ _ _ _ _ _ _ _ _ _ _ _ _ _ _ _ _ _ _ _ _ _ _ _ _ _ _ _ _ _ _ _
   | exact ih7 _ _ _ _ _ _ _ _ _ _ _ _ _ _ _ _ _ _ _ _ _ _ _ _ _ _ _ _ _ _ _ _ _ _ _ _ _ _ _ _ _
   | exact LeO.none _
   | refine LeO.ite ?_ ?_
   | refine LeO.bind ?_ (fun _=>?_)
  ·intro y0 y1 y2 y3 y4 y5 y6 y7 y8 y9 y10 y11 y12 y13 y14 y15 y16 y17 y18 y19 y20 y21 y22 y23 y24 y25 y26 y27 y28 y29 y30 y31 y32 y33 y34 y35 y36 y37 y38 y39 y40
   unfold config_Check.j5
   repeat' first
   | (with_reducible exact ih0 _ _ _ _ _ _ _ _ _ _ _ _ _ _ _ _ _ _ _ _ _ _ _ _ _ _ _ _ _ _ _ _ _ _ _ _)
   | (with_reducible exact ih1 _ _ _ _ _ _ _ _ _ _ _ _ _ _ _ _ _ _ _ _ _ _ _ _ _ _ _ _ _ _ _ _ _ _ _ _ _ _ _ _ _)
   | (with_reducible exact ih2 _ _ _ _ _ _ _ _ _ _ _ _ _ _ _ _ _ _ _ _ _ _ _ _ _ _ _ _ _ _ _ _ _ _ _ _ _ _ _ _ _)
   | (with_reducible exact ih3 _ _ _ _ _ _ _ _ _ _ _ _ _ _ _ _ _ _ _ _ _ _ _ _ _ _ _ _ _ _ _ _ _ _ _ _ _ _ _ _ _)
   | (with_reducible exact ih4 _ _ _ _ _ _ _ _ _ _ _ _ _ _ _ _ _ _ _ _ _ _ _ _ _ _ _ _ _ _ _ _ _ _ _ _ _ _ _ _ _)
   | (with_reducible exact ih5 _ _ _ _ _ _ _ _ _ _ _ _ _ _ _ _ _ _ _ _ _ _ _ _ _ _ _ _ _ _ _ _ _ _ _ _ _ _ _ _ _)
   | (with_reducible exact ih6 _ _ _ _ _ _ _ _ _ _ _ _ _ _ _ _ _ _ _ _ _ _ _ _ _ _ _ _ _ _ _ _ _ _ _ _ _ _ _ _ _)
   | (with_reducible exact ih7 _ _ _ _ _ _ _ _ _ _ _ _ _ _ _ _ _ _ _ _ _ _ _ _ _ _ _ _ _ _ _ _ _ _ _ _ _ _ _ _ _)
   | (with_reducible exact LeO.refl _)
   | (with_reducible exact LeO.none _)
   | (with_reducible refine LeO.ite ?_ ?_)
   | (with_reducible refine LeO.bind ?_ (fun _=>?_))
   | exact ih0 _ _ _ _ _ _ _ _ _ _ _ _ _ _ _ _ _ _ _ _ _ _ _ _ _ _ _ _ _ _ _ _ _ _ _ _
   | exact ih1 _ _ _ _ _ _ _ _ _ _ _ _ _ _ _ _ _ _ _ _ _ _ _ _ _ _ _ _ _ _ _ _ _ _ _ _ _ _ _ _ _
   | exact ih2 _ _ _ _ _ _ _ _ _ _ _ _ _ _ _ _ _ _ _ _ _ _ _ _ _ _ _ _ _ _ _ _ _ _ _ _ _ _ _ _ _
   | exact ih3 _ _ _ _ _ _ _ _ _ _ _ _ _ _ _ _ _ _ _ _ _ _ _ _ _ _ _ _ _ _ _ _ _ _ _ _ _ _ _ _ _
   | exact ih4 _ _ _ _ _ _ _ _ _ _ _ _ _ _ _ _ _ _ _ _ _ _ _ _ _ _ _ _ _ _ _ _ _ _ _ _ _ _ _ _ _
   | exact ih5 _ _ _ _ _ _ _ _ _ _ _ _ _ _ _ _ _ _ _ _ _ _ _ _ _ _ _ _ _ _ _ _ _ _ _ _ _ _ _ _ _
   | exact ih6 _ _ _ _ _ _ _ _ _ _ _ _ _ _ _ _ _ _ _ _ _ _ _ _ _ _ _ _ _ _ _ _ _ _ _ _ _ _ _ _ _
   | exact ih7 _ _ _ _ _ _ _ _ _ _ _ _ _ _ _ _ _ _ _ _ _ _ _ _ _ _ _ _ _ _ _ _ _ _ _ _ _ _ _ _ _
   | exact LeO.none _
   | refine LeO.ite ?_ ?_
   | refine LeO.bind ?_ (fun _=>?_)
  ·intro y0 y1 y2 y3 y4 y5 y6 y7 y8 y9 y10 y11 y12 y13 y14 y15 y16 y17 y18 y19 y20 y21 y22 y23 y24 y25 y26 y27 y28 y29 y30 y31 y32 y33 y34 y35 y36 y37 y38 y39 y40
   unfold config_Check.j6
   repeat' first
   | (with_reducible exact ih0 _ _ _ _ _ _ _ _ _ _ _ _ _ _ _ _ _ _ _ _ _ _ _ _ _ _ _ _ _ _ _ _ _ _ _ _)
   | (with_reducible exact ih1 _ _ _ _ _ _ _ _ _ _ _ _ _ _ _ _ _ _ _ _ _ _ _ _ _ _ _ _ _ _ _ _ _ _ _ _ _ _ _ _ _)
   | (with_reducible exact ih2 _ _ _ _ _ _ _ _ _ _ _ _ _ _ _ _ _ _ _ _ _ _ _ _ _ _ _ _ _ _ _ _ _ _ _ _ _ _ _ _ _)
   | (with_reducible exact ih3 _ _ _ _ _ _ _ _ _ _ _ _ _ _ _ _ _ _ _ _ _ _ _ _ _ _ _ _ _ _ _ _ _ _ _ _ _ _ _ _ _)
   | (with_reducible exact ih4 _ _ _ _ _ _ _ _ _ _ _ _ _ _ _ _ _ _ _ _ _ _ _ _ _ _ _ _ _ _ _ _ _ _ _ _ _ _ _ _ _)
   | (with_reducible exact ih5 _ _ _ _ _ _ _ _ _ _ _ _ _ _ _ _ _ _ _ _ _ _ _ _ _ _ _ _ _ _ _ _ _ _ _ _ _ _ _ _ _)
   | (with_reducible exact ih6 _ _ _ _ _ _ _ _ _ _ _ _ _ _ _ _ _ _ _ _ _ _ _ _ _ _ _ _ _ _ _ _ _ _ _ _ _ _ _ _ _)
   | (with_reducible exact ih7 _ _ _ _ _ _ _ _ _ _ _ _ _ _ _ _ _ _ _ _ _ _ _ _ _ _ _ _ _ _ _ _ _ _ _ _ _ _ _ _ _)
   | (with_reducible exact LeO.refl _)
   | (with_reducible exact LeO.none _)
   | (with_reducible refine LeO.ite ?_ ?_)
   | (with_reducible refine LeO.bind ?_ (fun _=>?_))
   | exact ih0 _ _ _ _ _ _ _ _ _ _ _ _ _ _ _ _ _ _ _ _ _ _ _ _ _ _ _ _ _ _ _ _ _ _ _ _
   | exact ih1 _ _ _ _ _ _ _ _ _ _ _ _ _ _ _ _ _ _ _ _ _ _ _ _ _ _ _ _ _ _ _ _ _ _ _ _ _ _ _ _ _
   | exact ih2 _ _ _ _ _ _ _ _ _ _ _ _ _ _ _ _ _ _ _ _ _ _ _ _ _ _ _ _ _ _ _ _ _ _ _ _ _ _ _ _ _
   | exact ih3 _ _ _ _ _ _ _ _ _ _ _ _ _ _ _ _ _ _ _ _ _ _ _ _ _ _ _ _ _ _ _ _ _ _ _ _ _ _ _ _ _
   | exact ih4 _ _ _ _ _ _ _ _ _ _ _ _ _ _ _ _ _ _ _ _ _ _ _ _ _ _ _ _ _ _ _ _ _ _ _ _ _ _ _ _ _
   | exact ih5 _ _ _ _ _ _ _ _ _ _ _ _ _ _ _ _ _ _ _ _ _ _ _ _ _ _ _ _ _ _ _ _ _ _ _ _ _ _ _ _ _
   | exact ih6 _ _ _ _ _ _ _ _ _ _ _ _ _ _ _ _ _ _ _ _ _ _ _ _ _ _ _ _ _ _ _ _ _ _ _ _ _ _ _ _ _
   | exact ih7 _ _ _ _ _ _ _ _ _ _ _ _ _ _ _ _ _ _ _ _ _ _ _ _ _ _ _ _ _ _ _ _ _ _ _ _ _ _ _ _ _
   | exact LeO.none _
   | refine LeO.ite ?_ ?_
   | refine LeO.bind ?_ (fun _=>?_)
  ·intro y0 y1 y2 y3 y4 y5 y6 y7 y8 y9 y10 y11 y12 y13 y14 y15 y16 y17 y18 y19 y20 y21 y22 y23 y24 y25 y26 y27 y28 y29 y30 y31 y32 y33 y34 y35 y36 y37 y38 y39 y40
   unfold config_Check.j7
   repeat' first
   | (with_reducible exact ih0 _ _ _ _ _ _ _ _ _ _ _ _ _ _ _ _ _ _ _ _ _ _ _ _ _ _ _ _ _ _ _ _ _ _ _ _)
   | (with_reducible exact ih1 _ _ _ _ _ _ _ _ _ _ _ _ _ _ _ _ _ _ _ _ _ _ _ _ _ _ _ _ _ _ _ _ _ _ _ _ _ _ _ _ _)
   | (with_reducible exact ih2 _ _ _ _ _ _ _ _ _ _ _ _ _ _ _ _ _ _ _ _ _ _ _ _ _ _ _ _ _ _ _ _ _ _ _ _ _ _ _ _ _)
   | (with_reducible exact ih3 _ _ _ _ _ _ _ _ _ _ _ _ _ _ _ _ _ _ _ _ _ _ _ _ _ _ _ _ _ _ _ _ _ _ _ _ _ _ _ _ _)
   | (with_reducible exact ih4 _ _ _ _ _ _ _ _ _ _ _ _ _ _ _ _ _ _ _ _ _ _ _ _ _ _ _ _ _ _ _ _ _ _ _ _ _ _ _ _ _)
   | (with_reducible exact ih5 _ _ _ _ _ _ _ _ _ _ _ _ _ _ _ _ _ _ _ _ _ _ _ _ _ _ _ _ _ _ _ _ _ _ _ _ _ _ _ _ _)
   | (with_reducible exact ih6 _ _ _ _ _ _ _ _ _ _ _ _ _ _ _ _ _ _ _ _ _ _ _ _ _ _ _ _ _ _ _ _ _ _ _ _ _ _ _ _ _)
   | (with_reducible exact ih7 _ _ _ _ _ _ _ _ _ _ _ _ _ _ _ _ _ _ _ _ _ _ _ _ _ _ _ _ _ _ _ _ _ _ _ _ _ _ _ _ _)
   | (with_reducible exact LeO.refl _)
   | (with_reducible exact LeO.none _)
   | (with_reducible refine LeO.ite ?_ ?_)
   | (with_reducible refine LeO.bind ?_ (fun _=>?_))
   | exact ih0 _ _ _ _ _ _ _ _ _ _ _ _ _ _ _ _ _ _ _ _ _ _ _ _ _ _ _ _ _ _ _ _ _ _ _ _
   | exact ih1 _ _ _ _ _ _ _ _ _ _ _ _ _ _ _ _ _ _ _ _ _ _ _ _ _ _ _ _ _ _ _ _ _ _ _ _ _ _ _ _ _
   | exact ih2 _ _ _ _ _ _ _ _ _ _ _ _ _ _ _ _ _ _ _ _ _ _ _ _ _ _ _ _ _ _ _ _ _ _ _ _ _ _ _ _ _
   | exact ih3 _ _ _ _ _ _ _ _ _ _ _ _ _ _ _ _ _ _ _ _ _ _ _ _ _ _ _ _ _ _ _ _ _ _ _ _ _ _ _ _ _
   | exact ih4 _ _ _ _ _ _ _ _ _ _ _ _ _ _ _ _ _ _ _ _ _ _ _ _ _ _ _ _ _ _ _ _ _ _ _ _ _ _ _ _ _
   | exact ih5 _ _ _ _ _ _ _ _ _ _ _ _ _ _ _ _ _ _ _ _ _ _ _ _ _ _ _ _ _ _ _ _ _ _ _ _ _ _ _ _ _
   | exact ih6 _ _ _ _ _ _ _ _ _ _ _ _ _ _ _ _ _ _ _ _ _ _ _ _ _ _ _ _ _ _ _ _ _ _ _ _ _ _ _ _ _
   | exact ih7 _ _ _ _ _ _ _ _ _ _ _ _ _ _ _ _ _ _ _ _ _ _ _ _ _ _ _ _ _ _ _ _ _ _ _ _ _ _ _ _ _
   | exact LeO.none _
   | refine LeO.ite ?_ ?_
   | refine LeO.bind ?_ (fun _=>?_)
theorem config_Check.mono : ∀ a0 a1 a2 a3 a4 a5 a6 k,LeO (config_Check.f k a0 a1 a2 a3 a4 a5 a6) (config_Check.f (k + 1) a0 a1 a2 a3 a4 a5 a6):=by
 intro a0 a1 a2 a3 a4 a5 a6 k
 obtain ⟨ih0,ih1,ih2,ih3,ih4,ih5,ih6,ih7⟩:=config_Check.mono_l k
 unfold config_Check.f
 repeat' first
   | (with_reducible exact ih0 _ _ _ _ _ _ _ _ _ _ _ _ _ _ _ _ _ _ _ _ _ _ _ _ _ _ _ _ _ _ _ _ _ _ _ _)
   | (with_reducible exact ih1 _ _ _ _ _ _ _ _ _ _ _ _ _ _ _ _ _ _ _ _ _ _ _ _ _ _ _ _ _ _ _ _ _ _ _ _ _ _ _ _ _)
   | (with_reducible exact ih2 _ _ _ _ _ _ _ _ _ _ _ _ _ _ _ _ _ _ _ _ _ _ _ _ _ _ _ _ _ _ _ _ _ _ _ _ _ _ _ _ _)
   | (with_reducible exact ih3 _ _ _ _ _ _ _ _ _ _ _ _ _ _ _ _ _ _ _ _ _ _ _ _ _ _ _ _ _ _ _ _ _ _ _ _ _ _ _ _ _)
   | (with_reducible exact ih4 _ _ _ _ _ _ _ _ _ _ _ _ _ _ _ _ _ _ _ _ _ _ _ _ _ _ _ _ _ _ _ _ _ _ _ _ _ _ _ _ _)
   | (with_reducible exact ih5 _ _ _ _ _ _ _ _ _ _ _ _ _ _ _ _ _ _ _ _ _ _ _ _ _ _ _ _ _ _ _ _ _ _ _ _ _ _ _ _ _)
   | (with_reducible exact ih6 _ _ _ _ _ _ _ _ _ _ _ _ _ _ _ _ _ _ _ _ _ _ _ _ _ _ _ _ _ _ _ _ _ _ _ _ _ _ _ _ _)
   | (with_reducible exact ih7 _ _ _ _ _ _ _ _ _ _ _ _ _ _ _ _ _ _ _ _ _ _ _ _ _ _ _ _ _ _ _ _ _ _ _ _ _ _ _ _ _)
   | (with_reducible exact LeO.refl _)
   | (with_reducible exact LeO.none _)
   | (with_reducible refine LeO.ite ?_ ?_)
   | (with_reducible refine LeO.bind ?_ (fun _=>?_))
   | exact ih0 _ _ _ _ _ _ _ _ _ _ _ _ _ _ _ _ _ _ _ _ _ _ _ _ _ _ _ _ _ _ _ _ _ _ _ _
   | exact ih1 _ _ _ _ _ _ _ _ _ _ _ _ _ _ _ _ _ _ _ _ _ _ _ _ _ _ _ _ _ _ _ _ _ _ _ _ _ _ _ _ _
   | exact ih2 _ _ _ _ _ _ _ _ _ _ _ _ _ _ _ _ _ _ _ _ _ _ _ _ _ _ _ _ _ _ _ _ _ _ _ _ _ _ _ _ _
   | exact ih3 _ _ _ _ _ _ _ _ _ _ _ _ _ _ _ _ _ _ _ _ _ _ _ _ _ _ _ _ _ _ _ _ _ _ _ _ _ _ _ _ _
   | exact ih4 _ _ _ _ _ _ _ _ _ _ _ _ _ _ _ _ _ _ _ _ _ _ _ _ _ _ _ _ _ _ _ _ _ _ _ _ _ _ _ _ _
   | exact ih5 _ _ _ _ _ _ _ _ _ _ _ _ _ _ _ _ _ _ _ _ _ _ _ _ _ _ _ _ _ _ _ _ _ _ _ _ _ _ _ _ _
   | exact ih6 _ _ _ _ _ _ _ _ _ _ _ _ _ _ _ _ _ _ _ _ _ _ _ _ _ _ _ _ _ _ _ _ _ _ _ _ _ _ _ _ _
   | exact ih7 _ _ _ _ _ _ _ _ _ _ _ _ _ _ _ _ _ _ _ _ _ _ _ _ _ _ _ _ _ _ _ _ _ _ _ _ _ _ _ _ _
   | exact LeO.none _
   | refine LeO.ite ?_ ?_
   | refine LeO.bind ?_ (fun _=>?_)
set_option maxHeartbeats 8000000 in
set_option maxRecDepth 100000 in
theorem config_Check.calls (k : Nat) (a0_0 : Int) (a0_1 : Int) (a0_2 : Int) (a0_3 : Int) (a0_4 : Int) (a0_5 : Int) (a0_6 : Int) (r : Int) (w : World) (h : config_Check.f k a0_0 a0_1 a0_2 a0_3 a0_4 a0_5 a0_6 = some r) :
  Calls Try.prog 47 #[.agg #[.int .i64 a0_0,.int .i64 a0_1,.int .i64 a0_2,.int .i64 a0_3,.int .i64 a0_4,.int .i64 a0_5,.int .i64 a0_6]] w fun e w'=>e = .returned (.int .i64 r) ∧ Below w.heap.size w w':=by
 have hu23:=Try.underlying23
 have hu113:=Try.underlying113
 have HB:=Aside0.mk (Below.refl w.heap.size w)
 have H : ((config_fields.f a0_0 a0_1 a0_2 a0_3 a0_4 a0_5 a0_6).bind fun bt107=>(config_Check.l0 k 0 a0_0 a0_1 a0_2 a0_3 a0_4 a0_5 a0_6 bt107.1 bt107.2.1 bt107.2.2.1 bt107.2.2.2.1 bt107.2.2.2.2.1 bt107.2.2.2.2.2.1 bt107.2.2.2.2.2.2.1 bt107.2.2.2.2.2.2.2.1 bt107.2.2.2.2.2.2.2.2.1 bt107.2.2.2.2.2.2.2.2.2.1 bt107.2.2.2.2.2.2.2.2.2.2.1 bt107.2.2.2.2.2.2.2.2.2.2.2.1 bt107.2.2.2.2.2.2.2.2.2.2.2.2.1 bt107.2.2.2.2.2.2.2.2.2.2.2.2.2.1 bt107.2.2.2.2.2.2.2.2.2.2.2.2.2.2.1 bt107.2.2.2.2.2.2.2.2.2.2.2.2.2.2.2.1 bt107.2.2.2.2.2.2.2.2.2.2.2.2.2.2.2.2.1 bt107.2.2.2.2.2.2.2.2.2.2.2.2.2.2.2.2.2.1 bt107.2.2.2.2.2.2.2.2.2.2.2.2.2.2.2.2.2.2.1 bt107.2.2.2.2.2.2.2.2.2.2.2.2.2.2.2.2.2.2.2.1 bt107.2.2.2.2.2.2.2.2.2.2.2.2.2.2.2.2.2.2.2.2.1 bt107.2.2.2.2.2.2.2.2.2.2.2.2.2.2.2.2.2.2.2.2.2.1 bt107.2.2.2.2.2.2.2.2.2.2.2.2.2.2.2.2.2.2.2.2.2.2.1 bt107.2.2.2.2.2.2.2.2.2.2.2.2.2.2.2.2.2.2.2.2.2.2.2.1 bt107.2.2.2.2.2.2.2.2.2.2.2.2.2.2.2.2.2.2.2.2.2.2.2.2.1 bt107.2.2.2.2.2.2.2.2.2.2.2.2.2.2.2.2.2.2.2.2.2.2.2.2.2.1 bt107.2.2.2.2.2.2.2.2.2.2.2.2.2.2.2.2.2.2.2.2.2.2.2.2.2.2.1 bt107.2.2.2.2.2.2.2.2.2.2.2.2.2.2.2.2.2.2.2.2.2.2.2.2.2.2.2)) = some r:=h
 clear h
 replace H:=Option.bind_eq_some_iff.mp H
 obtain ⟨⟨t107,t108,t109,t110,t111,t112,t113,t114,t115,t116,t117,t118,t119,t120,t121,t122,t123,t124,t125,t126,t127,t128,t129,t130,t131,t132,t133,t134⟩,A20,H⟩:=H
 replace H : (config_Check.l0 k 0 a0_0 a0_1 a0_2 a0_3 a0_4 a0_5 a0_6 t107 t108 t109 t110 t111 t112 t113 t114 t115 t116 t117 t118 t119 t120 t121 t122 t123 t124 t125 t126 t127 t128 t129 t130 t131 t132 t133 t134) = some r:=H
 have A2:=Aside0.mk A20
 clear A20
 have H':=Aside0.mk H
 clear H
 go_enter Try.func47,Try.ntmps47
 go_wp2_with (first|((with_reducible refine gate_dst (N:=1) rfl ?_);refine box_event ?hg (N:=1) ?hd (cs:=#[.int .i64 a0_0,.int .i64 a0_1,.int .i64 a0_2,.int .i64 a0_3,.int .i64 a0_4,.int .i64 a0_5,.int .i64 a0_6]) (t:=23) ?hr ?_;(case hd=>rfl);(case hg=>rfl);(case hr=>first|(go_simp;done)|(go_simp;rfl));intro gb106 hg w3 hbox hb;have n0_:=Aside0.mk (below_step (by repeat(first|(with_reducible first|exact HB.out|apply below_alloc|apply pw_below_drewN|apply below_drew1)|exact HB.out)) hb);have n1_:=Aside0.mk (hbox);have n2_:=Aside0.mk ((by rw [hg];exact (below_size (by repeat(first|(with_reducible first|exact HB.out|apply below_alloc|apply pw_below_drewN|apply below_drew1)|exact HB.out))) : w.heap.size ≤ gb106));have n3_:=Aside0.mk ((by rw [hg];exact (below_size (by repeat(first|(with_reducible first|exact HB.out|apply below_alloc|apply pw_below_drewN|apply below_drew1)|exact HB.out))) : w.heap.size ≤ gb106));clear HB;have HB:=n0_;have BK106:=n1_;have GW106:=n2_;have GE106:=n3_;clear n0_ n1_ n2_ n3_;clear hb hbox hg;have hcz4_0 : w3.cell? ⟨gb106,0,none⟩ = some (.int .i64 a0_0):=(blk_cell BK106.out 0).trans rfl;have hcz4_1 : w3.cell? ⟨gb106,1,none⟩ = some (.int .i64 a0_1):=(blk_cell BK106.out 1).trans rfl;have hcz4_2 : w3.cell? ⟨gb106,2,none⟩ = some (.int .i64 a0_2):=(blk_cell BK106.out 2).trans rfl;have hcz4_3 : w3.cell? ⟨gb106,3,none⟩ = some (.int .i64 a0_3):=(blk_cell BK106.out 3).trans rfl;have hcz4_4 : w3.cell? ⟨gb106,4,none⟩ = some (.int .i64 a0_4):=(blk_cell BK106.out 4).trans rfl;have hcz4_5 : w3.cell? ⟨gb106,5,none⟩ = some (.int .i64 a0_5):=(blk_cell BK106.out 5).trans rfl;have hcz4_6 : w3.cell? ⟨gb106,6,none⟩ = some (.int .i64 a0_6):=(blk_cell BK106.out 6).trans rfl;have hfz4_0:=blk_frozen BK106.out 0;have hfz4_1:=blk_frozen BK106.out 1;have hfz4_2:=blk_frozen BK106.out 2;have hfz4_3:=blk_frozen BK106.out 3;have hfz4_4:=blk_frozen BK106.out 4;have hfz4_5:=blk_frozen BK106.out 5;have hfz4_6:=blk_frozen BK106.out 6)|((with_reducible refine gate_callee (f:=76) rfl ?_);refine goesL_ (some 6) rfl rfl Try.func76 (by kernel_rfl) rfl #[.agg #[.int .i64 a0_0,.int .i64 a0_1,.int .i64 a0_2,.int .i64 a0_3,.int .i64 a0_4,.int .i64 a0_5,.int .i64 a0_6]] rfl (by (try simp only [List.map_toArray,List.map_cons,List.map_nil]);first|done|rfl|(simp only [List.length_drop,List.length_take];rfl)) ?_;(with_reducible refine (config_fields.calls a0_0 a0_1 a0_2 a0_3 a0_4 a0_5 a0_6 t107 t108 t109 t110 t111 t112 t113 t114 t115 t116 t117 t118 t119 t120 t121 t122 t123 t124 t125 t126 t127 t128 t129 t130 t131 t132 t133 t134 _ A2.out).mono ?_);rintro e w5 ⟨rfl,hb⟩;refine ⟨_,rfl,?_⟩;have n0_:=Aside0.mk (blk_below (g:=gb106) (o:=.cells #[.int .i64 a0_0,.int .i64 a0_1,.int .i64 a0_2,.int .i64 a0_3,.int .i64 a0_4,.int .i64 a0_5,.int .i64 a0_6] 23 (0,0)) (by (with_reducible repeat(first|refine blk_drewN ?_ _|refine blk_drew ?_|refine blk_alloc ?_ _));exact BK106.out) hb);have n1_:=Aside0.mk (below_step (by repeat(first|(with_reducible first|exact HB.out|apply below_alloc|apply pw_below_drewN|apply below_drew1|refine below_set ?_ GE106.out)|exact HB.out)) hb);clear BK106;clear HB;have BK106:=n0_;have HB:=n1_;clear n0_ n1_;(try clear hb);(try clear hb2);(try clear hk);(try clear hi)))
 go_loopg [7] k (fun kq v7 w'=>∃ (x7_1 : Int),v7 = .int .i64 x7_1 ∧ Aside0 (config_Check.l0 kq x7_1 a0_0 a0_1 a0_2 a0_3 a0_4 a0_5 a0_6 t107 t108 t109 t110 t111 t112 t113 t114 t115 t116 t117 t118 t119 t120 t121 t122 t123 t124 t125 t126 t127 t128 t129 t130 t131 t132 t133 t134 = some r) ∧ Aside0 (kq ≤ k) ∧ Aside0 (w'.heap[gb106]? = some (.cells #[.int .i64 a0_0,.int .i64 a0_1,.int .i64 a0_2,.int .i64 a0_3,.int .i64 a0_4,.int .i64 a0_5,.int .i64 a0_6] 23 (0,0))) ∧ Aside0 (Below w.heap.size w w'))
 case atStart=>exact ⟨(0),(by first|rfl|(simp;done)|(simp [*];done)|(simp [wrap64];done)|(simp [*,wrap64];done)),H',⟨Nat.le_refl _⟩,⟨by (with_reducible repeat(first|refine blk_drewN ?_ _|refine blk_drew ?_|refine blk_alloc ?_ _));exact BK106.out⟩,⟨by repeat(first|(with_reducible first|exact HB.out|apply below_alloc|apply pw_below_drewN|apply below_drew1|refine below_set ?_ GE106.out)|exact HB.out)⟩⟩
 case round =>
  clear H'
  try clear p2
  try clear c4
  try clear hcz4_0
  try clear hcz4_1
  try clear hcz4_2
  try clear hcz4_3
  try clear hcz4_4
  try clear hcz4_5
  try clear hcz4_6
  try clear hfz4_0
  try clear hfz4_1
  try clear hfz4_2
  try clear hfz4_3
  try clear hfz4_4
  try clear hfz4_5
  try clear hfz4_6
  obtain ⟨x7_1,rfl,HA,HK1,BK106,HB⟩:=hrel
  cases gk with
  | zero=>exact absurd HA.out (by simp [config_Check.l0])
  | succ k1 =>
   have H:=HA.out
   clear HA
   simp only [config_Check.l0] at H
   by_cases c6 : x7_1 < 7
   ·rw [if_pos c6] at H
    have c6b0 : decide (x7_1 < 7) = true:=decide_eq_true c6
    clear c6
    by_cases c7 : x7_1 = 0
    ·subst c7
     have H1 : (if t107 < t108 then (config_Check.j1 k1 0 (decide (t107 < t108)) a0_0 a0_1 a0_2 a0_3 a0_4 a0_5 a0_6 t107 t108 t109 t110 t107 t108 t109 t110 t111 t112 t113 t114 t115 t116 t117 t118 t119 t120 t121 t122 t123 t124 t125 t126 t127 t128 t129 t130 t131 t132 t133 t134) else (if t107 > t109 then (config_Check.j1 k1 0 (decide (t107 > t109)) a0_0 a0_1 a0_2 a0_3 a0_4 a0_5 a0_6 t107 t108 t109 t110 t107 t108 t109 t110 t111 t112 t113 t114 t115 t116 t117 t118 t119 t120 t121 t122 t123 t124 t125 t126 t127 t128 t129 t130 t131 t132 t133 t134) else (config_Check.j1 k1 0 false a0_0 a0_1 a0_2 a0_3 a0_4 a0_5 a0_6 t107 t108 t109 t110 t107 t108 t109 t110 t111 t112 t113 t114 t115 t116 t117 t118 t119 t120 t121 t122 t123 t124 t125 t126 t127 t128 t129 t130 t131 t132 t133 t134))) = some r:=by rw [if_pos rfl] at H;exact H
     clear H
     have H:=H1
     clear H1
     have HC8:=Aside0.mk H
     clear H
     go_upto_if 11 with (first|((with_reducible refine gate_dst (N:=4) rfl ?_);refine box_event ?hg (N:=4) ?hd (cs:=#[.int .i64 0,.int .i64 0,.int .i64 0,.int .i64 0]) (t:=113) ?hr ?_;(case hd=>rfl);(case hg=>rfl);(case hr=>first|(go_simp;done)|(go_simp;rfl));intro gb135 hg w9 hbox hb;have n0_:=Aside0.mk (blk_below (g:=gb106) (o:=.cells #[.int .i64 a0_0,.int .i64 a0_1,.int .i64 a0_2,.int .i64 a0_3,.int .i64 a0_4,.int .i64 a0_5,.int .i64 a0_6] 23 (0,0)) (by (with_reducible repeat(first|refine blk_drewN ?_ _|refine blk_drew ?_|refine blk_alloc ?_ _));exact BK106.out) hb);have n1_:=Aside0.mk (below_step (by repeat(first|(with_reducible first|exact HB.out|apply below_alloc|apply pw_below_drewN|apply below_drew1|refine below_set ?_ GE106.out)|exact HB.out)) hb);have n2_:=Aside0.mk (hbox);have n3_:=Aside0.mk ((by rw [hg];exact (below_size (by repeat(first|(with_reducible first|exact HB.out|apply below_alloc|apply pw_below_drewN|apply below_drew1|refine below_set ?_ GE106.out)|exact HB.out))) : w.heap.size ≤ gb135));have n4_:=Aside0.mk ((by rw [hg];exact (below_size (by repeat(first|(with_reducible first|exact HB.out|apply below_alloc|apply pw_below_drewN|apply below_drew1|refine below_set ?_ GE106.out)|exact HB.out))) : w.heap.size ≤ gb135));have n5_:=Aside0.mk ((by rw [hg];exact Nat.ne_of_lt (blk_lt (g:=gb106) (o:=.cells #[.int .i64 a0_0,.int .i64 a0_1,.int .i64 a0_2,.int .i64 a0_3,.int .i64 a0_4,.int .i64 a0_5,.int .i64 a0_6] 23 (0,0)) (by (with_reducible repeat(first|refine blk_drewN ?_ _|refine blk_drew ?_|refine blk_alloc ?_ _));exact BK106.out)) : gb106 ≠ gb135));have n6_:=Aside0.mk ((by rw [hg];exact Nat.ne_of_gt (blk_lt (g:=gb106) (o:=.cells #[.int .i64 a0_0,.int .i64 a0_1,.int .i64 a0_2,.int .i64 a0_3,.int .i64 a0_4,.int .i64 a0_5,.int .i64 a0_6] 23 (0,0)) (by (with_reducible repeat(first|refine blk_drewN ?_ _|refine blk_drew ?_|refine blk_alloc ?_ _));exact BK106.out)) : gb135 ≠ gb106));clear BK106;clear HB;have BK106:=n0_;have HB:=n1_;have BK135:=n2_;have GW135:=n3_;have GE135:=n4_;have NB106_135:=n5_;have NB135_106:=n6_;clear n0_ n1_ n2_ n3_ n4_ n5_ n6_;clear hb hbox hg;have hnb10:=NB135_106.out;have hnc10:=NB106_135.out;have hcz11_0 : w9.cell? ⟨gb135,0,none⟩ = some (.int .i64 0):=(blk_cell BK135.out 0).trans rfl;have hcz11_1 : w9.cell? ⟨gb135,1,none⟩ = some (.int .i64 0):=(blk_cell BK135.out 1).trans rfl;have hcz11_2 : w9.cell? ⟨gb135,2,none⟩ = some (.int .i64 0):=(blk_cell BK135.out 2).trans rfl;have hcz11_3 : w9.cell? ⟨gb135,3,none⟩ = some (.int .i64 0):=(blk_cell BK135.out 3).trans rfl;have hfz11_0:=blk_frozen BK135.out 0;have hfz11_1:=blk_frozen BK135.out 1;have hfz11_2:=blk_frozen BK135.out 2;have hfz11_3:=blk_frozen BK135.out 3))
     (try simp only [Act.put,List.setIfInBounds_toArray,List.set_cons_zero,List.set_cons_succ])
     go_cut [11] (fun v11 wc=>∃ (kq : Nat) (x11_7 : Bool),v11 = .bool x11_7 ∧ Aside0 (config_Check.j1 kq 0 x11_7 a0_0 a0_1 a0_2 a0_3 a0_4 a0_5 a0_6 t107 t108 t109 t110 t107 t108 t109 t110 t111 t112 t113 t114 t115 t116 t117 t118 t119 t120 t121 t122 t123 t124 t125 t126 t127 t128 t129 t130 t131 t132 t133 t134 = some r) ∧ Aside0 (kq ≤ k1) ∧ Aside0 (wc.heap[gb106]? = some (.cells #[.int .i64 a0_0,.int .i64 a0_1,.int .i64 a0_2,.int .i64 a0_3,.int .i64 a0_4,.int .i64 a0_5,.int .i64 a0_6] 23 (0,0))) ∧ Aside0 (wc.heap[gb135]? = some (.cells #[.int .i64 t107,.int .i64 t108,.int .i64 t109,.int .i64 t110] 113 (0,0))) ∧ Aside0 (Below w.heap.size w wc))
     case first =>
      have H:=HC8.out
      clear HC8
      by_cases c12 : t107 < t108
      ·rw [if_pos c12] at H
       have c12b0 : decide (t107 < t108) = true:=decide_eq_true c12
       clear c12
       (first|rw [c12b0]|(simp only [i64_w,i32_w];rw [c12b0])|skip)
       have H':=Aside0.mk H
       clear H
       go_wp2
       go_meet
       case rel=>exact ⟨_,(decide (t107 < t108)),(by first|rfl|(simp;done)|(simp [*];done)|(simp [wrap64];done)|(simp [*,wrap64];done)),H',⟨by have:=HK1.out;first|omega|exact Nat.le_refl _⟩,⟨by (with_reducible repeat(first|refine blk_drewN ?_ _|refine blk_drew ?_|refine blk_alloc ?_ _));refine blk_far ?_ NB106_135.out _;(with_reducible repeat(first|refine blk_drewN ?_ _|refine blk_drew ?_|refine blk_alloc ?_ _));refine blk_far ?_ NB106_135.out _;(with_reducible repeat(first|refine blk_drewN ?_ _|refine blk_drew ?_|refine blk_alloc ?_ _));refine blk_far ?_ NB106_135.out _;(with_reducible repeat(first|refine blk_drewN ?_ _|refine blk_drew ?_|refine blk_alloc ?_ _));refine blk_far ?_ NB106_135.out _;(with_reducible repeat(first|refine blk_drewN ?_ _|refine blk_drew ?_|refine blk_alloc ?_ _));exact BK106.out⟩,⟨by (with_reducible repeat(first|refine blk_drewN ?_ _|refine blk_drew ?_|refine blk_alloc ?_ _));refine blk_put (cs:=#[.int .i64 t107,.int .i64 t108,.int .i64 t109,.int .i64 0]) ?_ 3 _ rfl;(with_reducible repeat(first|refine blk_drewN ?_ _|refine blk_drew ?_|refine blk_alloc ?_ _));refine blk_put (cs:=#[.int .i64 t107,.int .i64 t108,.int .i64 0,.int .i64 0]) ?_ 2 _ rfl;(with_reducible repeat(first|refine blk_drewN ?_ _|refine blk_drew ?_|refine blk_alloc ?_ _));refine blk_put (cs:=#[.int .i64 t107,.int .i64 0,.int .i64 0,.int .i64 0]) ?_ 1 _ rfl;(with_reducible repeat(first|refine blk_drewN ?_ _|refine blk_drew ?_|refine blk_alloc ?_ _));refine blk_put (cs:=#[.int .i64 0,.int .i64 0,.int .i64 0,.int .i64 0]) ?_ 0 _ rfl;(with_reducible repeat(first|refine blk_drewN ?_ _|refine blk_drew ?_|refine blk_alloc ?_ _));exact BK135.out⟩,⟨by repeat(first|(with_reducible first|exact HB.out|apply below_alloc|apply pw_below_drewN|apply below_drew1|refine below_set ?_ GE106.out|refine below_set ?_ GE135.out)|exact HB.out)⟩⟩
      ·rw [if_neg c12] at H
       have c12b0 : decide (t107 < t108) = false:=decide_eq_false c12
       clear c12
       (first|rw [c12b0]|(simp only [i64_w,i32_w];rw [c12b0])|skip)
       by_cases c13 : t107 > t109
       ·rw [if_pos c13] at H
        have c13b0 : decide (t109 < t107) = true:=decide_eq_true c13
        clear c13
        have H':=Aside0.mk H
        clear H
        have hnb14:=NB135_106.out
        have hnc14:=NB106_135.out
        have hcz15_0 : w9.cell? ⟨gb135,0,none⟩ = some (.int .i64 0):=(blk_cell BK135.out 0).trans rfl
        have hcz15_1 : w9.cell? ⟨gb135,1,none⟩ = some (.int .i64 0):=(blk_cell BK135.out 1).trans rfl
        have hcz15_2 : w9.cell? ⟨gb135,2,none⟩ = some (.int .i64 0):=(blk_cell BK135.out 2).trans rfl
        have hcz15_3 : w9.cell? ⟨gb135,3,none⟩ = some (.int .i64 0):=(blk_cell BK135.out 3).trans rfl
        have hfz15_0:=blk_frozen BK135.out 0
        have hfz15_1:=blk_frozen BK135.out 1
        have hfz15_2:=blk_frozen BK135.out 2
        have hfz15_3:=blk_frozen BK135.out 3
        go_wp2
        go_meet
        case rel=>exact ⟨_,(decide (t107 > t109)),(by first|rfl|(simp;done)|(simp [*];done)|(simp [wrap64];done)|(simp [*,wrap64];done)),H',⟨by have:=HK1.out;first|omega|exact Nat.le_refl _⟩,⟨by (with_reducible repeat(first|refine blk_drewN ?_ _|refine blk_drew ?_|refine blk_alloc ?_ _));refine blk_far ?_ NB106_135.out _;(with_reducible repeat(first|refine blk_drewN ?_ _|refine blk_drew ?_|refine blk_alloc ?_ _));refine blk_far ?_ NB106_135.out _;(with_reducible repeat(first|refine blk_drewN ?_ _|refine blk_drew ?_|refine blk_alloc ?_ _));refine blk_far ?_ NB106_135.out _;(with_reducible repeat(first|refine blk_drewN ?_ _|refine blk_drew ?_|refine blk_alloc ?_ _));refine blk_far ?_ NB106_135.out _;(with_reducible repeat(first|refine blk_drewN ?_ _|refine blk_drew ?_|refine blk_alloc ?_ _));exact BK106.out⟩,⟨by (with_reducible repeat(first|refine blk_drewN ?_ _|refine blk_drew ?_|refine blk_alloc ?_ _));refine blk_put (cs:=#[.int .i64 t107,.int .i64 t108,.int .i64 t109,.int .i64 0]) ?_ 3 _ rfl;(with_reducible repeat(first|refine blk_drewN ?_ _|refine blk_drew ?_|refine blk_alloc ?_ _));refine blk_put (cs:=#[.int .i64 t107,.int .i64 t108,.int .i64 0,.int .i64 0]) ?_ 2 _ rfl;(with_reducible repeat(first|refine blk_drewN ?_ _|refine blk_drew ?_|refine blk_alloc ?_ _));refine blk_put (cs:=#[.int .i64 t107,.int .i64 0,.int .i64 0,.int .i64 0]) ?_ 1 _ rfl;(with_reducible repeat(first|refine blk_drewN ?_ _|refine blk_drew ?_|refine blk_alloc ?_ _));refine blk_put (cs:=#[.int .i64 0,.int .i64 0,.int .i64 0,.int .i64 0]) ?_ 0 _ rfl;(with_reducible repeat(first|refine blk_drewN ?_ _|refine blk_drew ?_|refine blk_alloc ?_ _));exact BK135.out⟩,⟨by repeat(first|(with_reducible first|exact HB.out|apply below_alloc|apply pw_below_drewN|apply below_drew1|refine below_set ?_ GE106.out|refine below_set ?_ GE135.out)|exact HB.out)⟩⟩
       ·rw [if_neg c13] at H
        have c13b0 : decide (t109 < t107) = false:=decide_eq_false c13
        clear c13
        have H':=Aside0.mk H
        clear H
        have hnb16:=NB135_106.out
        have hnc16:=NB106_135.out
        have hcz17_0 : w9.cell? ⟨gb135,0,none⟩ = some (.int .i64 0):=(blk_cell BK135.out 0).trans rfl
        have hcz17_1 : w9.cell? ⟨gb135,1,none⟩ = some (.int .i64 0):=(blk_cell BK135.out 1).trans rfl
        have hcz17_2 : w9.cell? ⟨gb135,2,none⟩ = some (.int .i64 0):=(blk_cell BK135.out 2).trans rfl
        have hcz17_3 : w9.cell? ⟨gb135,3,none⟩ = some (.int .i64 0):=(blk_cell BK135.out 3).trans rfl
        have hfz17_0:=blk_frozen BK135.out 0
        have hfz17_1:=blk_frozen BK135.out 1
        have hfz17_2:=blk_frozen BK135.out 2
        have hfz17_3:=blk_frozen BK135.out 3
        go_wp2
        go_meet
        case rel=>exact ⟨_,(false),(by first|rfl|(simp;done)|(simp [*];done)|(simp [wrap64];done)|(simp [*,wrap64];done)),H',⟨by have:=HK1.out;first|omega|exact Nat.le_refl _⟩,⟨by (with_reducible repeat(first|refine blk_drewN ?_ _|refine blk_drew ?_|refine blk_alloc ?_ _));refine blk_far ?_ NB106_135.out _;(with_reducible repeat(first|refine blk_drewN ?_ _|refine blk_drew ?_|refine blk_alloc ?_ _));refine blk_far ?_ NB106_135.out _;(with_reducible repeat(first|refine blk_drewN ?_ _|refine blk_drew ?_|refine blk_alloc ?_ _));refine blk_far ?_ NB106_135.out _;(with_reducible repeat(first|refine blk_drewN ?_ _|refine blk_drew ?_|refine blk_alloc ?_ _));refine blk_far ?_ NB106_135.out _;(with_reducible repeat(first|refine blk_drewN ?_ _|refine blk_drew ?_|refine blk_alloc ?_ _));exact BK106.out⟩,⟨by (with_reducible repeat(first|refine blk_drewN ?_ _|refine blk_drew ?_|refine blk_alloc ?_ _));refine blk_put (cs:=#[.int .i64 t107,.int .i64 t108,.int .i64 t109,.int .i64 0]) ?_ 3 _ rfl;(with_reducible repeat(first|refine blk_drewN ?_ _|refine blk_drew ?_|refine blk_alloc ?_ _));refine blk_put (cs:=#[.int .i64 t107,.int .i64 t108,.int .i64 0,.int .i64 0]) ?_ 2 _ rfl;(with_reducible repeat(first|refine blk_drewN ?_ _|refine blk_drew ?_|refine blk_alloc ?_ _));refine blk_put (cs:=#[.int .i64 t107,.int .i64 0,.int .i64 0,.int .i64 0]) ?_ 1 _ rfl;(with_reducible repeat(first|refine blk_drewN ?_ _|refine blk_drew ?_|refine blk_alloc ?_ _));refine blk_put (cs:=#[.int .i64 0,.int .i64 0,.int .i64 0,.int .i64 0]) ?_ 0 _ rfl;(with_reducible repeat(first|refine blk_drewN ?_ _|refine blk_drew ?_|refine blk_alloc ?_ _));exact BK135.out⟩,⟨by repeat(first|(with_reducible first|exact HB.out|apply below_alloc|apply pw_below_drewN|apply below_drew1|refine below_set ?_ GE106.out|refine below_set ?_ GE135.out)|exact HB.out)⟩⟩
     case rest =>
      clear HC8
      try clear c1
      try clear p2
      try clear c4
      try clear c6
      try clear c6b0
      try clear c7
      try clear c10
      try clear c12
      try clear c12b0
      try clear c13
      try clear c13b0
      try clear c14
      try clear c16
      try clear hcz11_0
      try clear hcz11_1
      try clear hcz11_2
      try clear hcz11_3
      try clear hcz15_0
      try clear hcz15_1
      try clear hcz15_2
      try clear hcz15_3
      try clear hcz17_0
      try clear hcz17_1
      try clear hcz17_2
      try clear hcz17_3
      try clear hcz4_0
      try clear hcz4_1
      try clear hcz4_2
      try clear hcz4_3
      try clear hcz4_4
      try clear hcz4_5
      try clear hcz4_6
      try clear hfz11_0
      try clear hfz11_1
      try clear hfz11_2
      try clear hfz11_3
      try clear hfz15_0
      try clear hfz15_1
      try clear hfz15_2
      try clear hfz15_3
      try clear hfz17_0
      try clear hfz17_1
      try clear hfz17_2
      try clear hfz17_3
      try clear hfz4_0
      try clear hfz4_1
      try clear hfz4_2
      try clear hfz4_3
      try clear hfz4_4
      try clear hfz4_5
      try clear hfz4_6
      try clear p2
      obtain ⟨kq,x11_7,rfl,HA,HJ7,BK106,BK135,HB⟩:=hcut
      cases kq with
      | zero=>exact absurd HA.out (by simp [config_Check.j1])
      | succ kj7 =>
       have H:=HA.out
       clear HA
       simp only [config_Check.j1] at H
       by_cases c18 : x11_7 = true
       ·subst c18
        have H1 : (some 3) = some r:=by rw [if_pos rfl] at H;exact H
        clear H
        have H:=H1
        clear H1
        obtain rfl:=Option.some.inj H
        go_wp2
        go_ret
        exact ⟨by first|rfl|(simp [errW_none,errW_some] <;> rfl)|(simp [*,errW_none,errW_some] <;> rfl),by repeat(first|(with_reducible first|exact HB.out|apply below_alloc|apply pw_below_drewN|apply below_drew1|refine below_set ?_ GE106.out|refine below_set ?_ GE135.out)|exact HB.out)⟩
       ·replace c18:=Bool.eq_false_iff.mpr c18
        subst c18
        have H1 : (if t107 > t109 then (some 4) else (config_Check.l0 kj7 (wrap64 (0 + 1)) a0_0 a0_1 a0_2 a0_3 a0_4 a0_5 a0_6 t107 t108 t109 t110 t111 t112 t113 t114 t115 t116 t117 t118 t119 t120 t121 t122 t123 t124 t125 t126 t127 t128 t129 t130 t131 t132 t133 t134)) = some r:=by rw [if_neg (show ¬ (false = true) by decide)] at H;exact H
        clear H
        have H:=H1
        clear H1
        by_cases c19 : t107 > t109
        ·rw [if_pos c19] at H
         have c19b0 : decide (t109 < t107) = true:=decide_eq_true c19
         clear c19
         obtain rfl:=Option.some.inj H
         have hnb20:=NB135_106.out
         have hnc20:=NB106_135.out
         have hcz21_0 : wc.cell? ⟨gb135,0,none⟩ = some (.int .i64 t107):=(blk_cell BK135.out 0).trans rfl
         have hcz21_1 : wc.cell? ⟨gb135,1,none⟩ = some (.int .i64 t108):=(blk_cell BK135.out 1).trans rfl
         have hcz21_2 : wc.cell? ⟨gb135,2,none⟩ = some (.int .i64 t109):=(blk_cell BK135.out 2).trans rfl
         have hcz21_3 : wc.cell? ⟨gb135,3,none⟩ = some (.int .i64 t110):=(blk_cell BK135.out 3).trans rfl
         have hfz21_0:=blk_frozen BK135.out 0
         have hfz21_1:=blk_frozen BK135.out 1
         have hfz21_2:=blk_frozen BK135.out 2
         have hfz21_3:=blk_frozen BK135.out 3
         go_wp2
         go_ret
         exact ⟨by first|rfl|(simp [errW_none,errW_some] <;> rfl)|(simp [*,errW_none,errW_some] <;> rfl),by repeat(first|(with_reducible first|exact HB.out|apply below_alloc|apply pw_below_drewN|apply below_drew1|refine below_set ?_ GE106.out|refine below_set ?_ GE135.out)|exact HB.out)⟩
        ·rw [if_neg c19] at H
         have c19b0 : decide (t109 < t107) = false:=decide_eq_false c19
         clear c19
         have H':=Aside0.mk H
         clear H
         have hnb22:=NB135_106.out
         have hnc22:=NB106_135.out
         have hcz23_0 : wc.cell? ⟨gb135,0,none⟩ = some (.int .i64 t107):=(blk_cell BK135.out 0).trans rfl
         have hcz23_1 : wc.cell? ⟨gb135,1,none⟩ = some (.int .i64 t108):=(blk_cell BK135.out 1).trans rfl
         have hcz23_2 : wc.cell? ⟨gb135,2,none⟩ = some (.int .i64 t109):=(blk_cell BK135.out 2).trans rfl
         have hcz23_3 : wc.cell? ⟨gb135,3,none⟩ = some (.int .i64 t110):=(blk_cell BK135.out 3).trans rfl
         have hfz23_0:=blk_frozen BK135.out 0
         have hfz23_1:=blk_frozen BK135.out 1
         have hfz23_2:=blk_frozen BK135.out 2
         have hfz23_3:=blk_frozen BK135.out 3
         go_wp2
         go_roundg kj7
         case measure=>have:=HK1.out;have:=HJ7.out;omega
         case rel=>exact ⟨(wrap64 (0 + 1)),(by first|rfl|(simp;done)|(simp [*];done)|(simp [wrap64];done)|(simp [*,wrap64];done)),H',⟨by have:=HK1.out;have:=HJ7.out;omega⟩,⟨by (with_reducible repeat(first|refine blk_drewN ?_ _|refine blk_drew ?_|refine blk_alloc ?_ _));exact BK106.out⟩,⟨by repeat(first|(with_reducible first|exact HB.out|apply below_alloc|apply pw_below_drewN|apply below_drew1|refine below_set ?_ GE106.out|refine below_set ?_ GE135.out)|exact HB.out)⟩⟩
    ·rw [if_neg c7] at H
     clear c7
     by_cases c24 : x7_1 = 1
     ·subst c24
      have H1 : (if t111 < t112 then (config_Check.j2 k1 1 (decide (t111 < t112)) a0_0 a0_1 a0_2 a0_3 a0_4 a0_5 a0_6 t111 t112 t113 t114 t107 t108 t109 t110 t111 t112 t113 t114 t115 t116 t117 t118 t119 t120 t121 t122 t123 t124 t125 t126 t127 t128 t129 t130 t131 t132 t133 t134) else (if a0_0 = 1 then (config_Check.j2 k1 1 (t111 != 0) a0_0 a0_1 a0_2 a0_3 a0_4 a0_5 a0_6 t111 t112 t113 t114 t107 t108 t109 t110 t111 t112 t113 t114 t115 t116 t117 t118 t119 t120 t121 t122 t123 t124 t125 t126 t127 t128 t129 t130 t131 t132 t133 t134) else (config_Check.j2 k1 1 false a0_0 a0_1 a0_2 a0_3 a0_4 a0_5 a0_6 t111 t112 t113 t114 t107 t108 t109 t110 t111 t112 t113 t114 t115 t116 t117 t118 t119 t120 t121 t122 t123 t124 t125 t126 t127 t128 t129 t130 t131 t132 t133 t134))) = some r:=by rw [if_pos rfl] at H;exact H
      clear H
      have H:=H1
      clear H1
      have HC25:=Aside0.mk H
      clear H
      go_upto_if 11 with (first|((with_reducible refine gate_dst (N:=4) rfl ?_);refine box_event ?hg (N:=4) ?hd (cs:=#[.int .i64 0,.int .i64 0,.int .i64 0,.int .i64 0]) (t:=113) ?hr ?_;(case hd=>rfl);(case hg=>rfl);(case hr=>first|(go_simp;done)|(go_simp;rfl));intro gb136 hg w26 hbox hb;have n0_:=Aside0.mk (blk_below (g:=gb106) (o:=.cells #[.int .i64 a0_0,.int .i64 a0_1,.int .i64 a0_2,.int .i64 a0_3,.int .i64 a0_4,.int .i64 a0_5,.int .i64 a0_6] 23 (0,0)) (by (with_reducible repeat(first|refine blk_drewN ?_ _|refine blk_drew ?_|refine blk_alloc ?_ _));exact BK106.out) hb);have n1_:=Aside0.mk (below_step (by repeat(first|(with_reducible first|exact HB.out|apply below_alloc|apply pw_below_drewN|apply below_drew1|refine below_set ?_ GE106.out)|exact HB.out)) hb);have n2_:=Aside0.mk (hbox);have n3_:=Aside0.mk ((by rw [hg];exact (below_size (by repeat(first|(with_reducible first|exact HB.out|apply below_alloc|apply pw_below_drewN|apply below_drew1|refine below_set ?_ GE106.out)|exact HB.out))) : w.heap.size ≤ gb136));have n4_:=Aside0.mk ((by rw [hg];exact (below_size (by repeat(first|(with_reducible first|exact HB.out|apply below_alloc|apply pw_below_drewN|apply below_drew1|refine below_set ?_ GE106.out)|exact HB.out))) : w.heap.size ≤ gb136));have n5_:=Aside0.mk ((by rw [hg];exact Nat.ne_of_lt (blk_lt (g:=gb106) (o:=.cells #[.int .i64 a0_0,.int .i64 a0_1,.int .i64 a0_2,.int .i64 a0_3,.int .i64 a0_4,.int .i64 a0_5,.int .i64 a0_6] 23 (0,0)) (by (with_reducible repeat(first|refine blk_drewN ?_ _|refine blk_drew ?_|refine blk_alloc ?_ _));exact BK106.out)) : gb106 ≠ gb136));have n6_:=Aside0.mk ((by rw [hg];exact Nat.ne_of_gt (blk_lt (g:=gb106) (o:=.cells #[.int .i64 a0_0,.int .i64 a0_1,.int .i64 a0_2,.int .i64 a0_3,.int .i64 a0_4,.int .i64 a0_5,.int .i64 a0_6] 23 (0,0)) (by (with_reducible repeat(first|refine blk_drewN ?_ _|refine blk_drew ?_|refine blk_alloc ?_ _));exact BK106.out)) : gb136 ≠ gb106));clear BK106;clear HB;have BK106:=n0_;have HB:=n1_;have BK136:=n2_;have GW136:=n3_;have GE136:=n4_;have NB106_136:=n5_;have NB136_106:=n6_;clear n0_ n1_ n2_ n3_ n4_ n5_ n6_;clear hb hbox hg;have hnb27:=NB136_106.out;have hnc27:=NB106_136.out;have hcz28_0 : w26.cell? ⟨gb136,0,none⟩ = some (.int .i64 0):=(blk_cell BK136.out 0).trans rfl;have hcz28_1 : w26.cell? ⟨gb136,1,none⟩ = some (.int .i64 0):=(blk_cell BK136.out 1).trans rfl;have hcz28_2 : w26.cell? ⟨gb136,2,none⟩ = some (.int .i64 0):=(blk_cell BK136.out 2).trans rfl;have hcz28_3 : w26.cell? ⟨gb136,3,none⟩ = some (.int .i64 0):=(blk_cell BK136.out 3).trans rfl;have hfz28_0:=blk_frozen BK136.out 0;have hfz28_1:=blk_frozen BK136.out 1;have hfz28_2:=blk_frozen BK136.out 2;have hfz28_3:=blk_frozen BK136.out 3))
      (try simp only [Act.put,List.setIfInBounds_toArray,List.set_cons_zero,List.set_cons_succ])
      go_cut [11] (fun v11 wc=>∃ (kq : Nat) (x11_24 : Bool),v11 = .bool x11_24 ∧ Aside0 (config_Check.j2 kq 1 x11_24 a0_0 a0_1 a0_2 a0_3 a0_4 a0_5 a0_6 t111 t112 t113 t114 t107 t108 t109 t110 t111 t112 t113 t114 t115 t116 t117 t118 t119 t120 t121 t122 t123 t124 t125 t126 t127 t128 t129 t130 t131 t132 t133 t134 = some r) ∧ Aside0 (kq ≤ k1) ∧ Aside0 (wc.heap[gb106]? = some (.cells #[.int .i64 a0_0,.int .i64 a0_1,.int .i64 a0_2,.int .i64 a0_3,.int .i64 a0_4,.int .i64 a0_5,.int .i64 a0_6] 23 (0,0))) ∧ Aside0 (wc.heap[gb136]? = some (.cells #[.int .i64 t111,.int .i64 t112,.int .i64 t113,.int .i64 t114] 113 (0,0))) ∧ Aside0 (Below w.heap.size w wc))
      case first =>
       have H:=HC25.out
       clear HC25
       by_cases c29 : t111 < t112
       ·rw [if_pos c29] at H
        have c29b0 : decide (t111 < t112) = true:=decide_eq_true c29
        clear c29
        (first|rw [c29b0]|(simp only [i64_w,i32_w];rw [c29b0])|skip)
        have H':=Aside0.mk H
        clear H
        go_wp2
        go_meet
        case rel=>exact ⟨_,(decide (t111 < t112)),(by first|rfl|(simp;done)|(simp [*];done)|(simp [wrap64];done)|(simp [*,wrap64];done)),H',⟨by have:=HK1.out;first|omega|exact Nat.le_refl _⟩,⟨by (with_reducible repeat(first|refine blk_drewN ?_ _|refine blk_drew ?_|refine blk_alloc ?_ _));refine blk_far ?_ NB106_136.out _;(with_reducible repeat(first|refine blk_drewN ?_ _|refine blk_drew ?_|refine blk_alloc ?_ _));refine blk_far ?_ NB106_136.out _;(with_reducible repeat(first|refine blk_drewN ?_ _|refine blk_drew ?_|refine blk_alloc ?_ _));refine blk_far ?_ NB106_136.out _;(with_reducible repeat(first|refine blk_drewN ?_ _|refine blk_drew ?_|refine blk_alloc ?_ _));refine blk_far ?_ NB106_136.out _;(with_reducible repeat(first|refine blk_drewN ?_ _|refine blk_drew ?_|refine blk_alloc ?_ _));exact BK106.out⟩,⟨by (with_reducible repeat(first|refine blk_drewN ?_ _|refine blk_drew ?_|refine blk_alloc ?_ _));refine blk_put (cs:=#[.int .i64 t111,.int .i64 t112,.int .i64 t113,.int .i64 0]) ?_ 3 _ rfl;(with_reducible repeat(first|refine blk_drewN ?_ _|refine blk_drew ?_|refine blk_alloc ?_ _));refine blk_put (cs:=#[.int .i64 t111,.int .i64 t112,.int .i64 0,.int .i64 0]) ?_ 2 _ rfl;(with_reducible repeat(first|refine blk_drewN ?_ _|refine blk_drew ?_|refine blk_alloc ?_ _));refine blk_put (cs:=#[.int .i64 t111,.int .i64 0,.int .i64 0,.int .i64 0]) ?_ 1 _ rfl;(with_reducible repeat(first|refine blk_drewN ?_ _|refine blk_drew ?_|refine blk_alloc ?_ _));refine blk_put (cs:=#[.int .i64 0,.int .i64 0,.int .i64 0,.int .i64 0]) ?_ 0 _ rfl;(with_reducible repeat(first|refine blk_drewN ?_ _|refine blk_drew ?_|refine blk_alloc ?_ _));exact BK136.out⟩,⟨by repeat(first|(with_reducible first|exact HB.out|apply below_alloc|apply pw_below_drewN|apply below_drew1|refine below_set ?_ GE106.out|refine below_set ?_ GE136.out)|exact HB.out)⟩⟩
       ·rw [if_neg c29] at H
        have c29b0 : decide (t111 < t112) = false:=decide_eq_false c29
        clear c29
        (first|rw [c29b0]|(simp only [i64_w,i32_w];rw [c29b0])|skip)
        by_cases c30 : a0_0 = 1
        ·rw [if_pos c30] at H
         have c30b0 : (a0_0 == 1) = true:=beq_iff_eq.mpr c30
         have c30b1 : (a0_0 != 1) = false:=bne_eq_false_iff_eq.mpr c30
         clear c30
         have H':=Aside0.mk H
         clear H
         have hnb31:=NB106_136.out
         have hnc31:=NB136_106.out
         have hcz32_0 : w26.cell? ⟨gb106,0,none⟩ = some (.int .i64 a0_0):=(blk_cell BK106.out 0).trans rfl
         have hcz32_1 : w26.cell? ⟨gb106,1,none⟩ = some (.int .i64 a0_1):=(blk_cell BK106.out 1).trans rfl
         have hcz32_2 : w26.cell? ⟨gb106,2,none⟩ = some (.int .i64 a0_2):=(blk_cell BK106.out 2).trans rfl
         have hcz32_3 : w26.cell? ⟨gb106,3,none⟩ = some (.int .i64 a0_3):=(blk_cell BK106.out 3).trans rfl
         have hcz32_4 : w26.cell? ⟨gb106,4,none⟩ = some (.int .i64 a0_4):=(blk_cell BK106.out 4).trans rfl
         have hcz32_5 : w26.cell? ⟨gb106,5,none⟩ = some (.int .i64 a0_5):=(blk_cell BK106.out 5).trans rfl
         have hcz32_6 : w26.cell? ⟨gb106,6,none⟩ = some (.int .i64 a0_6):=(blk_cell BK106.out 6).trans rfl
         have hfz32_0:=blk_frozen BK106.out 0
         have hfz32_1:=blk_frozen BK106.out 1
         have hfz32_2:=blk_frozen BK106.out 2
         have hfz32_3:=blk_frozen BK106.out 3
         have hfz32_4:=blk_frozen BK106.out 4
         have hfz32_5:=blk_frozen BK106.out 5
         have hfz32_6:=blk_frozen BK106.out 6
         have hcz33_0 : w26.cell? ⟨gb136,0,none⟩ = some (.int .i64 0):=(blk_cell BK136.out 0).trans rfl
         have hcz33_1 : w26.cell? ⟨gb136,1,none⟩ = some (.int .i64 0):=(blk_cell BK136.out 1).trans rfl
         have hcz33_2 : w26.cell? ⟨gb136,2,none⟩ = some (.int .i64 0):=(blk_cell BK136.out 2).trans rfl
         have hcz33_3 : w26.cell? ⟨gb136,3,none⟩ = some (.int .i64 0):=(blk_cell BK136.out 3).trans rfl
         have hfz33_0:=blk_frozen BK136.out 0
         have hfz33_1:=blk_frozen BK136.out 1
         have hfz33_2:=blk_frozen BK136.out 2
         have hfz33_3:=blk_frozen BK136.out 3
         go_wp2
         go_meet
         case rel=>exact ⟨_,((t111 != 0)),(by first|rfl|(simp;done)|(simp [*];done)|(simp [wrap64];done)|(simp [*,wrap64];done)),H',⟨by have:=HK1.out;first|omega|exact Nat.le_refl _⟩,⟨by (with_reducible repeat(first|refine blk_drewN ?_ _|refine blk_drew ?_|refine blk_alloc ?_ _));refine blk_far ?_ NB106_136.out _;(with_reducible repeat(first|refine blk_drewN ?_ _|refine blk_drew ?_|refine blk_alloc ?_ _));refine blk_far ?_ NB106_136.out _;(with_reducible repeat(first|refine blk_drewN ?_ _|refine blk_drew ?_|refine blk_alloc ?_ _));refine blk_far ?_ NB106_136.out _;(with_reducible repeat(first|refine blk_drewN ?_ _|refine blk_drew ?_|refine blk_alloc ?_ _));refine blk_far ?_ NB106_136.out _;(with_reducible repeat(first|refine blk_drewN ?_ _|refine blk_drew ?_|refine blk_alloc ?_ _));exact BK106.out⟩,⟨by (with_reducible repeat(first|refine blk_drewN ?_ _|refine blk_drew ?_|refine blk_alloc ?_ _));refine blk_put (cs:=#[.int .i64 t111,.int .i64 t112,.int .i64 t113,.int .i64 0]) ?_ 3 _ rfl;(with_reducible repeat(first|refine blk_drewN ?_ _|refine blk_drew ?_|refine blk_alloc ?_ _));refine blk_put (cs:=#[.int .i64 t111,.int .i64 t112,.int .i64 0,.int .i64 0]) ?_ 2 _ rfl;(with_reducible repeat(first|refine blk_drewN ?_ _|refine blk_drew ?_|refine blk_alloc ?_ _));refine blk_put (cs:=#[.int .i64 t111,.int .i64 0,.int .i64 0,.int .i64 0]) ?_ 1 _ rfl;(with_reducible repeat(first|refine blk_drewN ?_ _|refine blk_drew ?_|refine blk_alloc ?_ _));refine blk_put (cs:=#[.int .i64 0,.int .i64 0,.int .i64 0,.int .i64 0]) ?_ 0 _ rfl;(with_reducible repeat(first|refine blk_drewN ?_ _|refine blk_drew ?_|refine blk_alloc ?_ _));exact BK136.out⟩,⟨by repeat(first|(with_reducible first|exact HB.out|apply below_alloc|apply pw_below_drewN|apply below_drew1|refine below_set ?_ GE106.out|refine below_set ?_ GE136.out)|exact HB.out)⟩⟩
        ·rw [if_neg c30] at H
         have c30b0 : (a0_0 == 1) = false:=beq_eq_false_iff_ne.mpr c30
         have c30b1 : (a0_0 != 1) = true:=bne_iff_ne.mpr c30
         have H':=Aside0.mk H
         clear H
         have hnb34:=NB106_136.out
         have hnc34:=NB136_106.out
         have hcz35_0 : w26.cell? ⟨gb106,0,none⟩ = some (.int .i64 a0_0):=(blk_cell BK106.out 0).trans rfl
         have hcz35_1 : w26.cell? ⟨gb106,1,none⟩ = some (.int .i64 a0_1):=(blk_cell BK106.out 1).trans rfl
         have hcz35_2 : w26.cell? ⟨gb106,2,none⟩ = some (.int .i64 a0_2):=(blk_cell BK106.out 2).trans rfl
         have hcz35_3 : w26.cell? ⟨gb106,3,none⟩ = some (.int .i64 a0_3):=(blk_cell BK106.out 3).trans rfl
         have hcz35_4 : w26.cell? ⟨gb106,4,none⟩ = some (.int .i64 a0_4):=(blk_cell BK106.out 4).trans rfl
         have hcz35_5 : w26.cell? ⟨gb106,5,none⟩ = some (.int .i64 a0_5):=(blk_cell BK106.out 5).trans rfl
         have hcz35_6 : w26.cell? ⟨gb106,6,none⟩ = some (.int .i64 a0_6):=(blk_cell BK106.out 6).trans rfl
         have hfz35_0:=blk_frozen BK106.out 0
         have hfz35_1:=blk_frozen BK106.out 1
         have hfz35_2:=blk_frozen BK106.out 2
         have hfz35_3:=blk_frozen BK106.out 3
         have hfz35_4:=blk_frozen BK106.out 4
         have hfz35_5:=blk_frozen BK106.out 5
         have hfz35_6:=blk_frozen BK106.out 6
         go_wp2
         go_meet
         case rel=>exact ⟨_,(false),(by first|rfl|(simp;done)|(simp [*];done)|(simp [wrap64];done)|(simp [*,wrap64];done)),H',⟨by have:=HK1.out;first|omega|exact Nat.le_refl _⟩,⟨by (with_reducible repeat(first|refine blk_drewN ?_ _|refine blk_drew ?_|refine blk_alloc ?_ _));refine blk_far ?_ NB106_136.out _;(with_reducible repeat(first|refine blk_drewN ?_ _|refine blk_drew ?_|refine blk_alloc ?_ _));refine blk_far ?_ NB106_136.out _;(with_reducible repeat(first|refine blk_drewN ?_ _|refine blk_drew ?_|refine blk_alloc ?_ _));refine blk_far ?_ NB106_136.out _;(with_reducible repeat(first|refine blk_drewN ?_ _|refine blk_drew ?_|refine blk_alloc ?_ _));refine blk_far ?_ NB106_136.out _;(with_reducible repeat(first|refine blk_drewN ?_ _|refine blk_drew ?_|refine blk_alloc ?_ _));exact BK106.out⟩,⟨by (with_reducible repeat(first|refine blk_drewN ?_ _|refine blk_drew ?_|refine blk_alloc ?_ _));refine blk_put (cs:=#[.int .i64 t111,.int .i64 t112,.int .i64 t113,.int .i64 0]) ?_ 3 _ rfl;(with_reducible repeat(first|refine blk_drewN ?_ _|refine blk_drew ?_|refine blk_alloc ?_ _));refine blk_put (cs:=#[.int .i64 t111,.int .i64 t112,.int .i64 0,.int .i64 0]) ?_ 2 _ rfl;(with_reducible repeat(first|refine blk_drewN ?_ _|refine blk_drew ?_|refine blk_alloc ?_ _));refine blk_put (cs:=#[.int .i64 t111,.int .i64 0,.int .i64 0,.int .i64 0]) ?_ 1 _ rfl;(with_reducible repeat(first|refine blk_drewN ?_ _|refine blk_drew ?_|refine blk_alloc ?_ _));refine blk_put (cs:=#[.int .i64 0,.int .i64 0,.int .i64 0,.int .i64 0]) ?_ 0 _ rfl;(with_reducible repeat(first|refine blk_drewN ?_ _|refine blk_drew ?_|refine blk_alloc ?_ _));exact BK136.out⟩,⟨by repeat(first|(with_reducible first|exact HB.out|apply below_alloc|apply pw_below_drewN|apply below_drew1|refine below_set ?_ GE106.out|refine below_set ?_ GE136.out)|exact HB.out)⟩⟩
      case rest =>
       clear HC25
       try clear c1
       try clear c2
       try clear p2
       try clear c3
       try clear c4
       try clear c6
       try clear c6b0
       try clear p6
       try clear c7
       try clear c10
       try clear c12
       try clear c12b0
       try clear c13
       try clear c13b0
       try clear c14
       try clear c16
       try clear c18
       try clear c19
       try clear c19b0
       try clear c20
       try clear c22
       try clear c24
       try clear c27
       try clear c29
       try clear c29b0
       try clear c30
       try clear c30b0
       try clear c30b1
       try clear c31
       try clear c34
       try clear hcz11_0
       try clear hcz11_1
       try clear hcz11_2
       try clear hcz11_3
       try clear hcz15_0
       try clear hcz15_1
       try clear hcz15_2
       try clear hcz15_3
       try clear hcz17_0
       try clear hcz17_1
       try clear hcz17_2
       try clear hcz17_3
       try clear hcz21_0
       try clear hcz21_1
       try clear hcz21_2
       try clear hcz21_3
       try clear hcz23_0
       try clear hcz23_1
       try clear hcz23_2
       try clear hcz23_3
       try clear hcz28_0
       try clear hcz28_1
       try clear hcz28_2
       try clear hcz28_3
       try clear hcz32_0
       try clear hcz32_1
       try clear hcz32_2
       try clear hcz32_3
       try clear hcz32_4
       try clear hcz32_5
       try clear hcz32_6
       try clear hcz33_0
       try clear hcz33_1
       try clear hcz33_2
       try clear hcz33_3
       try clear hcz35_0
       try clear hcz35_1
       try clear hcz35_2
       try clear hcz35_3
       try clear hcz35_4
       try clear hcz35_5
       try clear hcz35_6
       try clear hcz4_0
       try clear hcz4_1
       try clear hcz4_2
       try clear hcz4_3
       try clear hcz4_4
       try clear hcz4_5
       try clear hcz4_6
       try clear hfz11_0
       try clear hfz11_1
       try clear hfz11_2
       try clear hfz11_3
       try clear hfz15_0
       try clear hfz15_1
       try clear hfz15_2
       try clear hfz15_3
       try clear hfz17_0
       try clear hfz17_1
       try clear hfz17_2
       try clear hfz17_3
       try clear hfz21_0
       try clear hfz21_1
       try clear hfz21_2
       try clear hfz21_3
       try clear hfz23_0
       try clear hfz23_1
       try clear hfz23_2
       try clear hfz23_3
       try clear hfz28_0
       try clear hfz28_1
       try clear hfz28_2
       try clear hfz28_3
       try clear hfz32_0
       try clear hfz32_1
       try clear hfz32_2
       try clear hfz32_3
       try clear hfz32_4
       try clear hfz32_5
       try clear hfz32_6
       try clear hfz33_0
       try clear hfz33_1
       try clear hfz33_2
       try clear hfz33_3
       try clear hfz35_0
       try clear hfz35_1
       try clear hfz35_2
       try clear hfz35_3
       try clear hfz35_4
       try clear hfz35_5
       try clear hfz35_6
       try clear hfz4_0
       try clear hfz4_1
       try clear hfz4_2
       try clear hfz4_3
       try clear hfz4_4
       try clear hfz4_5
       try clear hfz4_6
       try clear p2
       obtain ⟨kq,x11_24,rfl,HA,HJ24,BK106,BK136,HB⟩:=hcut
       cases kq with
       | zero=>exact absurd HA.out (by simp [config_Check.j2])
       | succ kj24 =>
        have H:=HA.out
        clear HA
        simp only [config_Check.j2] at H
        by_cases c36 : x11_24 = true
        ·subst c36
         have H1 : (some 3) = some r:=by rw [if_pos rfl] at H;exact H
         clear H
         have H:=H1
         clear H1
         obtain rfl:=Option.some.inj H
         go_wp2
         go_ret
         exact ⟨by first|rfl|(simp [errW_none,errW_some] <;> rfl)|(simp [*,errW_none,errW_some] <;> rfl),by repeat(first|(with_reducible first|exact HB.out|apply below_alloc|apply pw_below_drewN|apply below_drew1|refine below_set ?_ GE106.out|refine below_set ?_ GE136.out)|exact HB.out)⟩
        ·replace c36:=Bool.eq_false_iff.mpr c36
         subst c36
         have H1 : (if t111 > t113 then (some 4) else (config_Check.l0 kj24 (wrap64 (1 + 1)) a0_0 a0_1 a0_2 a0_3 a0_4 a0_5 a0_6 t107 t108 t109 t110 t111 t112 t113 t114 t115 t116 t117 t118 t119 t120 t121 t122 t123 t124 t125 t126 t127 t128 t129 t130 t131 t132 t133 t134)) = some r:=by rw [if_neg (show ¬ (false = true) by decide)] at H;exact H
         clear H
         have H:=H1
         clear H1
         by_cases c37 : t111 > t113
         ·rw [if_pos c37] at H
          have c37b0 : decide (t113 < t111) = true:=decide_eq_true c37
          clear c37
          obtain rfl:=Option.some.inj H
          have hnb38:=NB136_106.out
          have hnc38:=NB106_136.out
          have hcz39_0 : wc.cell? ⟨gb136,0,none⟩ = some (.int .i64 t111):=(blk_cell BK136.out 0).trans rfl
          have hcz39_1 : wc.cell? ⟨gb136,1,none⟩ = some (.int .i64 t112):=(blk_cell BK136.out 1).trans rfl
          have hcz39_2 : wc.cell? ⟨gb136,2,none⟩ = some (.int .i64 t113):=(blk_cell BK136.out 2).trans rfl
          have hcz39_3 : wc.cell? ⟨gb136,3,none⟩ = some (.int .i64 t114):=(blk_cell BK136.out 3).trans rfl
          have hfz39_0:=blk_frozen BK136.out 0
          have hfz39_1:=blk_frozen BK136.out 1
          have hfz39_2:=blk_frozen BK136.out 2
          have hfz39_3:=blk_frozen BK136.out 3
          go_wp2
          go_ret
          exact ⟨by first|rfl|(simp [errW_none,errW_some] <;> rfl)|(simp [*,errW_none,errW_some] <;> rfl),by repeat(first|(with_reducible first|exact HB.out|apply below_alloc|apply pw_below_drewN|apply below_drew1|refine below_set ?_ GE106.out|refine below_set ?_ GE136.out)|exact HB.out)⟩
         ·rw [if_neg c37] at H
          have c37b0 : decide (t113 < t111) = false:=decide_eq_false c37
          clear c37
          have H':=Aside0.mk H
          clear H
          have hnb40:=NB136_106.out
          have hnc40:=NB106_136.out
          have hcz41_0 : wc.cell? ⟨gb136,0,none⟩ = some (.int .i64 t111):=(blk_cell BK136.out 0).trans rfl
          have hcz41_1 : wc.cell? ⟨gb136,1,none⟩ = some (.int .i64 t112):=(blk_cell BK136.out 1).trans rfl
          have hcz41_2 : wc.cell? ⟨gb136,2,none⟩ = some (.int .i64 t113):=(blk_cell BK136.out 2).trans rfl
          have hcz41_3 : wc.cell? ⟨gb136,3,none⟩ = some (.int .i64 t114):=(blk_cell BK136.out 3).trans rfl
          have hfz41_0:=blk_frozen BK136.out 0
          have hfz41_1:=blk_frozen BK136.out 1
          have hfz41_2:=blk_frozen BK136.out 2
          have hfz41_3:=blk_frozen BK136.out 3
          go_wp2
          go_roundg kj24
          case measure=>have:=HK1.out;have:=HJ24.out;omega
          case rel=>exact ⟨(wrap64 (1 + 1)),(by first|rfl|(simp;done)|(simp [*];done)|(simp [wrap64];done)|(simp [*,wrap64];done)),H',⟨by have:=HK1.out;have:=HJ24.out;omega⟩,⟨by (with_reducible repeat(first|refine blk_drewN ?_ _|refine blk_drew ?_|refine blk_alloc ?_ _));exact BK106.out⟩,⟨by repeat(first|(with_reducible first|exact HB.out|apply below_alloc|apply pw_below_drewN|apply below_drew1|refine below_set ?_ GE106.out|refine below_set ?_ GE136.out)|exact HB.out)⟩⟩
     ·rw [if_neg c24] at H
      clear c24
      by_cases c42 : x7_1 = 2
      ·subst c42
       have H1 : (if t115 < t116 then (config_Check.j3 k1 2 (decide (t115 < t116)) a0_0 a0_1 a0_2 a0_3 a0_4 a0_5 a0_6 t115 t116 t117 t118 t107 t108 t109 t110 t111 t112 t113 t114 t115 t116 t117 t118 t119 t120 t121 t122 t123 t124 t125 t126 t127 t128 t129 t130 t131 t132 t133 t134) else (config_Check.j3 k1 2 false a0_0 a0_1 a0_2 a0_3 a0_4 a0_5 a0_6 t115 t116 t117 t118 t107 t108 t109 t110 t111 t112 t113 t114 t115 t116 t117 t118 t119 t120 t121 t122 t123 t124 t125 t126 t127 t128 t129 t130 t131 t132 t133 t134)) = some r:=by rw [if_pos rfl] at H;exact H
       clear H
       have H:=H1
       clear H1
       have HC43:=Aside0.mk H
       clear H
       go_upto_if 11 with (first|((with_reducible refine gate_dst (N:=4) rfl ?_);refine box_event ?hg (N:=4) ?hd (cs:=#[.int .i64 0,.int .i64 0,.int .i64 0,.int .i64 0]) (t:=113) ?hr ?_;(case hd=>rfl);(case hg=>rfl);(case hr=>first|(go_simp;done)|(go_simp;rfl));intro gb137 hg w44 hbox hb;have n0_:=Aside0.mk (blk_below (g:=gb106) (o:=.cells #[.int .i64 a0_0,.int .i64 a0_1,.int .i64 a0_2,.int .i64 a0_3,.int .i64 a0_4,.int .i64 a0_5,.int .i64 a0_6] 23 (0,0)) (by (with_reducible repeat(first|refine blk_drewN ?_ _|refine blk_drew ?_|refine blk_alloc ?_ _));exact BK106.out) hb);have n1_:=Aside0.mk (below_step (by repeat(first|(with_reducible first|exact HB.out|apply below_alloc|apply pw_below_drewN|apply below_drew1|refine below_set ?_ GE106.out)|exact HB.out)) hb);have n2_:=Aside0.mk (hbox);have n3_:=Aside0.mk ((by rw [hg];exact (below_size (by repeat(first|(with_reducible first|exact HB.out|apply below_alloc|apply pw_below_drewN|apply below_drew1|refine below_set ?_ GE106.out)|exact HB.out))) : w.heap.size ≤ gb137));have n4_:=Aside0.mk ((by rw [hg];exact (below_size (by repeat(first|(with_reducible first|exact HB.out|apply below_alloc|apply pw_below_drewN|apply below_drew1|refine below_set ?_ GE106.out)|exact HB.out))) : w.heap.size ≤ gb137));have n5_:=Aside0.mk ((by rw [hg];exact Nat.ne_of_lt (blk_lt (g:=gb106) (o:=.cells #[.int .i64 a0_0,.int .i64 a0_1,.int .i64 a0_2,.int .i64 a0_3,.int .i64 a0_4,.int .i64 a0_5,.int .i64 a0_6] 23 (0,0)) (by (with_reducible repeat(first|refine blk_drewN ?_ _|refine blk_drew ?_|refine blk_alloc ?_ _));exact BK106.out)) : gb106 ≠ gb137));have n6_:=Aside0.mk ((by rw [hg];exact Nat.ne_of_gt (blk_lt (g:=gb106) (o:=.cells #[.int .i64 a0_0,.int .i64 a0_1,.int .i64 a0_2,.int .i64 a0_3,.int .i64 a0_4,.int .i64 a0_5,.int .i64 a0_6] 23 (0,0)) (by (with_reducible repeat(first|refine blk_drewN ?_ _|refine blk_drew ?_|refine blk_alloc ?_ _));exact BK106.out)) : gb137 ≠ gb106));clear BK106;clear HB;have BK106:=n0_;have HB:=n1_;have BK137:=n2_;have GW137:=n3_;have GE137:=n4_;have NB106_137:=n5_;have NB137_106:=n6_;clear n0_ n1_ n2_ n3_ n4_ n5_ n6_;clear hb hbox hg;have hnb45:=NB137_106.out;have hnc45:=NB106_137.out;have hcz46_0 : w44.cell? ⟨gb137,0,none⟩ = some (.int .i64 0):=(blk_cell BK137.out 0).trans rfl;have hcz46_1 : w44.cell? ⟨gb137,1,none⟩ = some (.int .i64 0):=(blk_cell BK137.out 1).trans rfl;have hcz46_2 : w44.cell? ⟨gb137,2,none⟩ = some (.int .i64 0):=(blk_cell BK137.out 2).trans rfl;have hcz46_3 : w44.cell? ⟨gb137,3,none⟩ = some (.int .i64 0):=(blk_cell BK137.out 3).trans rfl;have hfz46_0:=blk_frozen BK137.out 0;have hfz46_1:=blk_frozen BK137.out 1;have hfz46_2:=blk_frozen BK137.out 2;have hfz46_3:=blk_frozen BK137.out 3))
       (try simp only [Act.put,List.setIfInBounds_toArray,List.set_cons_zero,List.set_cons_succ])
       go_cut [11] (fun v11 wc=>∃ (kq : Nat) (x11_42 : Bool),v11 = .bool x11_42 ∧ Aside0 (config_Check.j3 kq 2 x11_42 a0_0 a0_1 a0_2 a0_3 a0_4 a0_5 a0_6 t115 t116 t117 t118 t107 t108 t109 t110 t111 t112 t113 t114 t115 t116 t117 t118 t119 t120 t121 t122 t123 t124 t125 t126 t127 t128 t129 t130 t131 t132 t133 t134 = some r) ∧ Aside0 (kq ≤ k1) ∧ Aside0 (wc.heap[gb106]? = some (.cells #[.int .i64 a0_0,.int .i64 a0_1,.int .i64 a0_2,.int .i64 a0_3,.int .i64 a0_4,.int .i64 a0_5,.int .i64 a0_6] 23 (0,0))) ∧ Aside0 (wc.heap[gb137]? = some (.cells #[.int .i64 t115,.int .i64 t116,.int .i64 t117,.int .i64 t118] 113 (0,0))) ∧ Aside0 (Below w.heap.size w wc))
       case first =>
        have H:=HC43.out
        clear HC43
        by_cases c47 : t115 < t116
        ·rw [if_pos c47] at H
         have c47b0 : decide (t115 < t116) = true:=decide_eq_true c47
         clear c47
         (first|rw [c47b0]|(simp only [i64_w,i32_w];rw [c47b0])|skip)
         have H':=Aside0.mk H
         clear H
         go_wp2
         go_meet
         case rel=>exact ⟨_,(decide (t115 < t116)),(by first|rfl|(simp;done)|(simp [*];done)|(simp [wrap64];done)|(simp [*,wrap64];done)),H',⟨by have:=HK1.out;first|omega|exact Nat.le_refl _⟩,⟨by (with_reducible repeat(first|refine blk_drewN ?_ _|refine blk_drew ?_|refine blk_alloc ?_ _));refine blk_far ?_ NB106_137.out _;(with_reducible repeat(first|refine blk_drewN ?_ _|refine blk_drew ?_|refine blk_alloc ?_ _));refine blk_far ?_ NB106_137.out _;(with_reducible repeat(first|refine blk_drewN ?_ _|refine blk_drew ?_|refine blk_alloc ?_ _));refine blk_far ?_ NB106_137.out _;(with_reducible repeat(first|refine blk_drewN ?_ _|refine blk_drew ?_|refine blk_alloc ?_ _));refine blk_far ?_ NB106_137.out _;(with_reducible repeat(first|refine blk_drewN ?_ _|refine blk_drew ?_|refine blk_alloc ?_ _));exact BK106.out⟩,⟨by (with_reducible repeat(first|refine blk_drewN ?_ _|refine blk_drew ?_|refine blk_alloc ?_ _));refine blk_put (cs:=#[.int .i64 t115,.int .i64 t116,.int .i64 t117,.int .i64 0]) ?_ 3 _ rfl;(with_reducible repeat(first|refine blk_drewN ?_ _|refine blk_drew ?_|refine blk_alloc ?_ _));refine blk_put (cs:=#[.int .i64 t115,.int .i64 t116,.int .i64 0,.int .i64 0]) ?_ 2 _ rfl;(with_reducible repeat(first|refine blk_drewN ?_ _|refine blk_drew ?_|refine blk_alloc ?_ _));refine blk_put (cs:=#[.int .i64 t115,.int .i64 0,.int .i64 0,.int .i64 0]) ?_ 1 _ rfl;(with_reducible repeat(first|refine blk_drewN ?_ _|refine blk_drew ?_|refine blk_alloc ?_ _));refine blk_put (cs:=#[.int .i64 0,.int .i64 0,.int .i64 0,.int .i64 0]) ?_ 0 _ rfl;(with_reducible repeat(first|refine blk_drewN ?_ _|refine blk_drew ?_|refine blk_alloc ?_ _));exact BK137.out⟩,⟨by repeat(first|(with_reducible first|exact HB.out|apply below_alloc|apply pw_below_drewN|apply below_drew1|refine below_set ?_ GE106.out|refine below_set ?_ GE137.out)|exact HB.out)⟩⟩
        ·rw [if_neg c47] at H
         have c47b0 : decide (t115 < t116) = false:=decide_eq_false c47
         clear c47
         (first|rw [c47b0]|(simp only [i64_w,i32_w];rw [c47b0])|skip)
         have H':=Aside0.mk H
         clear H
         go_wp2
         go_meet
         case rel=>exact ⟨_,(false),(by first|rfl|(simp;done)|(simp [*];done)|(simp [wrap64];done)|(simp [*,wrap64];done)),H',⟨by have:=HK1.out;first|omega|exact Nat.le_refl _⟩,⟨by (with_reducible repeat(first|refine blk_drewN ?_ _|refine blk_drew ?_|refine blk_alloc ?_ _));refine blk_far ?_ NB106_137.out _;(with_reducible repeat(first|refine blk_drewN ?_ _|refine blk_drew ?_|refine blk_alloc ?_ _));refine blk_far ?_ NB106_137.out _;(with_reducible repeat(first|refine blk_drewN ?_ _|refine blk_drew ?_|refine blk_alloc ?_ _));refine blk_far ?_ NB106_137.out _;(with_reducible repeat(first|refine blk_drewN ?_ _|refine blk_drew ?_|refine blk_alloc ?_ _));refine blk_far ?_ NB106_137.out _;(with_reducible repeat(first|refine blk_drewN ?_ _|refine blk_drew ?_|refine blk_alloc ?_ _));exact BK106.out⟩,⟨by (with_reducible repeat(first|refine blk_drewN ?_ _|refine blk_drew ?_|refine blk_alloc ?_ _));refine blk_put (cs:=#[.int .i64 t115,.int .i64 t116,.int .i64 t117,.int .i64 0]) ?_ 3 _ rfl;(with_reducible repeat(first|refine blk_drewN ?_ _|refine blk_drew ?_|refine blk_alloc ?_ _));refine blk_put (cs:=#[.int .i64 t115,.int .i64 t116,.int .i64 0,.int .i64 0]) ?_ 2 _ rfl;(with_reducible repeat(first|refine blk_drewN ?_ _|refine blk_drew ?_|refine blk_alloc ?_ _));refine blk_put (cs:=#[.int .i64 t115,.int .i64 0,.int .i64 0,.int .i64 0]) ?_ 1 _ rfl;(with_reducible repeat(first|refine blk_drewN ?_ _|refine blk_drew ?_|refine blk_alloc ?_ _));refine blk_put (cs:=#[.int .i64 0,.int .i64 0,.int .i64 0,.int .i64 0]) ?_ 0 _ rfl;(with_reducible repeat(first|refine blk_drewN ?_ _|refine blk_drew ?_|refine blk_alloc ?_ _));exact BK137.out⟩,⟨by repeat(first|(with_reducible first|exact HB.out|apply below_alloc|apply pw_below_drewN|apply below_drew1|refine below_set ?_ GE106.out|refine below_set ?_ GE137.out)|exact HB.out)⟩⟩
       case rest =>
        clear HC43
        try clear c1
        try clear c2
        try clear p2
        try clear c3
        try clear c4
        try clear c6
        try clear c6b0
        try clear p6
        try clear c7
        try clear c10
        try clear c12
        try clear c12b0
        try clear c13
        try clear c13b0
        try clear c14
        try clear c16
        try clear c18
        try clear c19
        try clear c19b0
        try clear c20
        try clear c22
        try clear c24
        try clear c27
        try clear c29
        try clear c29b0
        try clear c30
        try clear c30b0
        try clear c30b1
        try clear c31
        try clear c34
        try clear c36
        try clear c37
        try clear c37b0
        try clear c38
        try clear c40
        try clear c42
        try clear c45
        try clear c47
        try clear c47b0
        try clear hcz11_0
        try clear hcz11_1
        try clear hcz11_2
        try clear hcz11_3
        try clear hcz15_0
        try clear hcz15_1
        try clear hcz15_2
        try clear hcz15_3
        try clear hcz17_0
        try clear hcz17_1
        try clear hcz17_2
        try clear hcz17_3
        try clear hcz21_0
        try clear hcz21_1
        try clear hcz21_2
        try clear hcz21_3
        try clear hcz23_0
        try clear hcz23_1
        try clear hcz23_2
        try clear hcz23_3
        try clear hcz28_0
        try clear hcz28_1
        try clear hcz28_2
        try clear hcz28_3
        try clear hcz32_0
        try clear hcz32_1
        try clear hcz32_2
        try clear hcz32_3
        try clear hcz32_4
        try clear hcz32_5
        try clear hcz32_6
        try clear hcz33_0
        try clear hcz33_1
        try clear hcz33_2
        try clear hcz33_3
        try clear hcz35_0
        try clear hcz35_1
        try clear hcz35_2
        try clear hcz35_3
        try clear hcz35_4
        try clear hcz35_5
        try clear hcz35_6
        try clear hcz39_0
        try clear hcz39_1
        try clear hcz39_2
        try clear hcz39_3
        try clear hcz41_0
        try clear hcz41_1
        try clear hcz41_2
        try clear hcz41_3
        try clear hcz46_0
        try clear hcz46_1
        try clear hcz46_2
        try clear hcz46_3
        try clear hcz4_0
        try clear hcz4_1
        try clear hcz4_2
        try clear hcz4_3
        try clear hcz4_4
        try clear hcz4_5
        try clear hcz4_6
        try clear hfz11_0
        try clear hfz11_1
        try clear hfz11_2
        try clear hfz11_3
        try clear hfz15_0
        try clear hfz15_1
        try clear hfz15_2
        try clear hfz15_3
        try clear hfz17_0
        try clear hfz17_1
        try clear hfz17_2
        try clear hfz17_3
        try clear hfz21_0
        try clear hfz21_1
        try clear hfz21_2
        try clear hfz21_3
        try clear hfz23_0
        try clear hfz23_1
        try clear hfz23_2
        try clear hfz23_3
        try clear hfz28_0
        try clear hfz28_1
        try clear hfz28_2
        try clear hfz28_3
        try clear hfz32_0
        try clear hfz32_1
        try clear hfz32_2
        try clear hfz32_3
        try clear hfz32_4
        try clear hfz32_5
        try clear hfz32_6
        try clear hfz33_0
        try clear hfz33_1
        try clear hfz33_2
        try clear hfz33_3
        try clear hfz35_0
        try clear hfz35_1
        try clear hfz35_2
        try clear hfz35_3
        try clear hfz35_4
        try clear hfz35_5
        try clear hfz35_6
        try clear hfz39_0
        try clear hfz39_1
        try clear hfz39_2
        try clear hfz39_3
        try clear hfz41_0
        try clear hfz41_1
        try clear hfz41_2
        try clear hfz41_3
        try clear hfz46_0
        try clear hfz46_1
        try clear hfz46_2
        try clear hfz46_3
        try clear hfz4_0
        try clear hfz4_1
        try clear hfz4_2
        try clear hfz4_3
        try clear hfz4_4
        try clear hfz4_5
        try clear hfz4_6
        try clear p2
        try clear p6
        obtain ⟨kq,x11_42,rfl,HA,HJ42,BK106,BK137,HB⟩:=hcut
        cases kq with
        | zero=>exact absurd HA.out (by simp [config_Check.j3])
        | succ kj42 =>
         have H:=HA.out
         clear HA
         simp only [config_Check.j3] at H
         by_cases c48 : x11_42 = true
         ·subst c48
          have H1 : (some 3) = some r:=by rw [if_pos rfl] at H;exact H
          clear H
          have H:=H1
          clear H1
          obtain rfl:=Option.some.inj H
          go_wp2
          go_ret
          exact ⟨by first|rfl|(simp [errW_none,errW_some] <;> rfl)|(simp [*,errW_none,errW_some] <;> rfl),by repeat(first|(with_reducible first|exact HB.out|apply below_alloc|apply pw_below_drewN|apply below_drew1|refine below_set ?_ GE106.out|refine below_set ?_ GE137.out)|exact HB.out)⟩
         ·replace c48:=Bool.eq_false_iff.mpr c48
          subst c48
          have H1 : (if t115 > t117 then (some 4) else (config_Check.l0 kj42 (wrap64 (2 + 1)) a0_0 a0_1 a0_2 a0_3 a0_4 a0_5 a0_6 t107 t108 t109 t110 t111 t112 t113 t114 t115 t116 t117 t118 t119 t120 t121 t122 t123 t124 t125 t126 t127 t128 t129 t130 t131 t132 t133 t134)) = some r:=by rw [if_neg (show ¬ (false = true) by decide)] at H;exact H
          clear H
          have H:=H1
          clear H1
          by_cases c49 : t115 > t117
          ·rw [if_pos c49] at H
           have c49b0 : decide (t117 < t115) = true:=decide_eq_true c49
           clear c49
           obtain rfl:=Option.some.inj H
           have hnb50:=NB137_106.out
           have hnc50:=NB106_137.out
           have hcz51_0 : wc.cell? ⟨gb137,0,none⟩ = some (.int .i64 t115):=(blk_cell BK137.out 0).trans rfl
           have hcz51_1 : wc.cell? ⟨gb137,1,none⟩ = some (.int .i64 t116):=(blk_cell BK137.out 1).trans rfl
           have hcz51_2 : wc.cell? ⟨gb137,2,none⟩ = some (.int .i64 t117):=(blk_cell BK137.out 2).trans rfl
           have hcz51_3 : wc.cell? ⟨gb137,3,none⟩ = some (.int .i64 t118):=(blk_cell BK137.out 3).trans rfl
           have hfz51_0:=blk_frozen BK137.out 0
           have hfz51_1:=blk_frozen BK137.out 1
           have hfz51_2:=blk_frozen BK137.out 2
           have hfz51_3:=blk_frozen BK137.out 3
           go_wp2
           go_ret
           exact ⟨by first|rfl|(simp [errW_none,errW_some] <;> rfl)|(simp [*,errW_none,errW_some] <;> rfl),by repeat(first|(with_reducible first|exact HB.out|apply below_alloc|apply pw_below_drewN|apply below_drew1|refine below_set ?_ GE106.out|refine below_set ?_ GE137.out)|exact HB.out)⟩
          ·rw [if_neg c49] at H
           have c49b0 : decide (t117 < t115) = false:=decide_eq_false c49
           clear c49
           have H':=Aside0.mk H
           clear H
           have hnb52:=NB137_106.out
           have hnc52:=NB106_137.out
           have hcz53_0 : wc.cell? ⟨gb137,0,none⟩ = some (.int .i64 t115):=(blk_cell BK137.out 0).trans rfl
           have hcz53_1 : wc.cell? ⟨gb137,1,none⟩ = some (.int .i64 t116):=(blk_cell BK137.out 1).trans rfl
           have hcz53_2 : wc.cell? ⟨gb137,2,none⟩ = some (.int .i64 t117):=(blk_cell BK137.out 2).trans rfl
           have hcz53_3 : wc.cell? ⟨gb137,3,none⟩ = some (.int .i64 t118):=(blk_cell BK137.out 3).trans rfl
           have hfz53_0:=blk_frozen BK137.out 0
           have hfz53_1:=blk_frozen BK137.out 1
           have hfz53_2:=blk_frozen BK137.out 2
           have hfz53_3:=blk_frozen BK137.out 3
           go_wp2
           go_roundg kj42
           case measure=>have:=HK1.out;have:=HJ42.out;omega
           case rel=>exact ⟨(wrap64 (2 + 1)),(by first|rfl|(simp;done)|(simp [*];done)|(simp [wrap64];done)|(simp [*,wrap64];done)),H',⟨by have:=HK1.out;have:=HJ42.out;omega⟩,⟨by (with_reducible repeat(first|refine blk_drewN ?_ _|refine blk_drew ?_|refine blk_alloc ?_ _));exact BK106.out⟩,⟨by repeat(first|(with_reducible first|exact HB.out|apply below_alloc|apply pw_below_drewN|apply below_drew1|refine below_set ?_ GE106.out|refine below_set ?_ GE137.out)|exact HB.out)⟩⟩
      ·rw [if_neg c42] at H
       clear c42
       by_cases c54 : x7_1 = 3
       ·subst c54
        have H1 : (if t119 < t120 then (config_Check.j4 k1 3 (decide (t119 < t120)) a0_0 a0_1 a0_2 a0_3 a0_4 a0_5 a0_6 t119 t120 t121 t122 t107 t108 t109 t110 t111 t112 t113 t114 t115 t116 t117 t118 t119 t120 t121 t122 t123 t124 t125 t126 t127 t128 t129 t130 t131 t132 t133 t134) else (config_Check.j4 k1 3 false a0_0 a0_1 a0_2 a0_3 a0_4 a0_5 a0_6 t119 t120 t121 t122 t107 t108 t109 t110 t111 t112 t113 t114 t115 t116 t117 t118 t119 t120 t121 t122 t123 t124 t125 t126 t127 t128 t129 t130 t131 t132 t133 t134)) = some r:=by rw [if_pos rfl] at H;exact H
        clear H
        have H:=H1
        clear H1
        have HC55:=Aside0.mk H
        clear H
        go_upto_if 11 with (first|((with_reducible refine gate_dst (N:=4) rfl ?_);refine box_event ?hg (N:=4) ?hd (cs:=#[.int .i64 0,.int .i64 0,.int .i64 0,.int .i64 0]) (t:=113) ?hr ?_;(case hd=>rfl);(case hg=>rfl);(case hr=>first|(go_simp;done)|(go_simp;rfl));intro gb138 hg w56 hbox hb;have n0_:=Aside0.mk (blk_below (g:=gb106) (o:=.cells #[.int .i64 a0_0,.int .i64 a0_1,.int .i64 a0_2,.int .i64 a0_3,.int .i64 a0_4,.int .i64 a0_5,.int .i64 a0_6] 23 (0,0)) (by (with_reducible repeat(first|refine blk_drewN ?_ _|refine blk_drew ?_|refine blk_alloc ?_ _));exact BK106.out) hb);have n1_:=Aside0.mk (below_step (by repeat(first|(with_reducible first|exact HB.out|apply below_alloc|apply pw_below_drewN|apply below_drew1|refine below_set ?_ GE106.out)|exact HB.out)) hb);have n2_:=Aside0.mk (hbox);have n3_:=Aside0.mk ((by rw [hg];exact (below_size (by repeat(first|(with_reducible first|exact HB.out|apply below_alloc|apply pw_below_drewN|apply below_drew1|refine below_set ?_ GE106.out)|exact HB.out))) : w.heap.size ≤ gb138));have n4_:=Aside0.mk ((by rw [hg];exact (below_size (by repeat(first|(with_reducible first|exact HB.out|apply below_alloc|apply pw_below_drewN|apply below_drew1|refine below_set ?_ GE106.out)|exact HB.out))) : w.heap.size ≤ gb138));have n5_:=Aside0.mk ((by rw [hg];exact Nat.ne_of_lt (blk_lt (g:=gb106) (o:=.cells #[.int .i64 a0_0,.int .i64 a0_1,.int .i64 a0_2,.int .i64 a0_3,.int .i64 a0_4,.int .i64 a0_5,.int .i64 a0_6] 23 (0,0)) (by (with_reducible repeat(first|refine blk_drewN ?_ _|refine blk_drew ?_|refine blk_alloc ?_ _));exact BK106.out)) : gb106 ≠ gb138));have n6_:=Aside0.mk ((by rw [hg];exact Nat.ne_of_gt (blk_lt (g:=gb106) (o:=.cells #[.int .i64 a0_0,.int .i64 a0_1,.int .i64 a0_2,.int .i64 a0_3,.int .i64 a0_4,.int .i64 a0_5,.int .i64 a0_6] 23 (0,0)) (by (with_reducible repeat(first|refine blk_drewN ?_ _|refine blk_drew ?_|refine blk_alloc ?_ _));exact BK106.out)) : gb138 ≠ gb106));clear BK106;clear HB;have BK106:=n0_;have HB:=n1_;have BK138:=n2_;have GW138:=n3_;have GE138:=n4_;have NB106_138:=n5_;have NB138_106:=n6_;clear n0_ n1_ n2_ n3_ n4_ n5_ n6_;clear hb hbox hg;have hnb57:=NB138_106.out;have hnc57:=NB106_138.out;have hcz58_0 : w56.cell? ⟨gb138,0,none⟩ = some (.int .i64 0):=(blk_cell BK138.out 0).trans rfl;have hcz58_1 : w56.cell? ⟨gb138,1,none⟩ = some (.int .i64 0):=(blk_cell BK138.out 1).trans rfl;have hcz58_2 : w56.cell? ⟨gb138,2,none⟩ = some (.int .i64 0):=(blk_cell BK138.out 2).trans rfl;have hcz58_3 : w56.cell? ⟨gb138,3,none⟩ = some (.int .i64 0):=(blk_cell BK138.out 3).trans rfl;have hfz58_0:=blk_frozen BK138.out 0;have hfz58_1:=blk_frozen BK138.out 1;have hfz58_2:=blk_frozen BK138.out 2;have hfz58_3:=blk_frozen BK138.out 3))
        (try simp only [Act.put,List.setIfInBounds_toArray,List.set_cons_zero,List.set_cons_succ])
        go_cut [11] (fun v11 wc=>∃ (kq : Nat) (x11_54 : Bool),v11 = .bool x11_54 ∧ Aside0 (config_Check.j4 kq 3 x11_54 a0_0 a0_1 a0_2 a0_3 a0_4 a0_5 a0_6 t119 t120 t121 t122 t107 t108 t109 t110 t111 t112 t113 t114 t115 t116 t117 t118 t119 t120 t121 t122 t123 t124 t125 t126 t127 t128 t129 t130 t131 t132 t133 t134 = some r) ∧ Aside0 (kq ≤ k1) ∧ Aside0 (wc.heap[gb106]? = some (.cells #[.int .i64 a0_0,.int .i64 a0_1,.int .i64 a0_2,.int .i64 a0_3,.int .i64 a0_4,.int .i64 a0_5,.int .i64 a0_6] 23 (0,0))) ∧ Aside0 (wc.heap[gb138]? = some (.cells #[.int .i64 t119,.int .i64 t120,.int .i64 t121,.int .i64 t122] 113 (0,0))) ∧ Aside0 (Below w.heap.size w wc))
        case first =>
         have H:=HC55.out
         clear HC55
         by_cases c59 : t119 < t120
         ·rw [if_pos c59] at H
          have c59b0 : decide (t119 < t120) = true:=decide_eq_true c59
          clear c59
          (first|rw [c59b0]|(simp only [i64_w,i32_w];rw [c59b0])|skip)
          have H':=Aside0.mk H
          clear H
          go_wp2
          go_meet
          case rel=>exact ⟨_,(decide (t119 < t120)),(by first|rfl|(simp;done)|(simp [*];done)|(simp [wrap64];done)|(simp [*,wrap64];done)),H',⟨by have:=HK1.out;first|omega|exact Nat.le_refl _⟩,⟨by (with_reducible repeat(first|refine blk_drewN ?_ _|refine blk_drew ?_|refine blk_alloc ?_ _));refine blk_far ?_ NB106_138.out _;(with_reducible repeat(first|refine blk_drewN ?_ _|refine blk_drew ?_|refine blk_alloc ?_ _));refine blk_far ?_ NB106_138.out _;(with_reducible repeat(first|refine blk_drewN ?_ _|refine blk_drew ?_|refine blk_alloc ?_ _));refine blk_far ?_ NB106_138.out _;(with_reducible repeat(first|refine blk_drewN ?_ _|refine blk_drew ?_|refine blk_alloc ?_ _));refine blk_far ?_ NB106_138.out _;(with_reducible repeat(first|refine blk_drewN ?_ _|refine blk_drew ?_|refine blk_alloc ?_ _));exact BK106.out⟩,⟨by (with_reducible repeat(first|refine blk_drewN ?_ _|refine blk_drew ?_|refine blk_alloc ?_ _));refine blk_put (cs:=#[.int .i64 t119,.int .i64 t120,.int .i64 t121,.int .i64 0]) ?_ 3 _ rfl;(with_reducible repeat(first|refine blk_drewN ?_ _|refine blk_drew ?_|refine blk_alloc ?_ _));refine blk_put (cs:=#[.int .i64 t119,.int .i64 t120,.int .i64 0,.int .i64 0]) ?_ 2 _ rfl;(with_reducible repeat(first|refine blk_drewN ?_ _|refine blk_drew ?_|refine blk_alloc ?_ _));refine blk_put (cs:=#[.int .i64 t119,.int .i64 0,.int .i64 0,.int .i64 0]) ?_ 1 _ rfl;(with_reducible repeat(first|refine blk_drewN ?_ _|refine blk_drew ?_|refine blk_alloc ?_ _));refine blk_put (cs:=#[.int .i64 0,.int .i64 0,.int .i64 0,.int .i64 0]) ?_ 0 _ rfl;(with_reducible repeat(first|refine blk_drewN ?_ _|refine blk_drew ?_|refine blk_alloc ?_ _));exact BK138.out⟩,⟨by repeat(first|(with_reducible first|exact HB.out|apply below_alloc|apply pw_below_drewN|apply below_drew1|refine below_set ?_ GE106.out|refine below_set ?_ GE138.out)|exact HB.out)⟩⟩
         ·rw [if_neg c59] at H
          have c59b0 : decide (t119 < t120) = false:=decide_eq_false c59
          clear c59
          (first|rw [c59b0]|(simp only [i64_w,i32_w];rw [c59b0])|skip)
          have H':=Aside0.mk H
          clear H
          go_wp2
          go_meet
          case rel=>exact ⟨_,(false),(by first|rfl|(simp;done)|(simp [*];done)|(simp [wrap64];done)|(simp [*,wrap64];done)),H',⟨by have:=HK1.out;first|omega|exact Nat.le_refl _⟩,⟨by (with_reducible repeat(first|refine blk_drewN ?_ _|refine blk_drew ?_|refine blk_alloc ?_ _));refine blk_far ?_ NB106_138.out _;(with_reducible repeat(first|refine blk_drewN ?_ _|refine blk_drew ?_|refine blk_alloc ?_ _));refine blk_far ?_ NB106_138.out _;(with_reducible repeat(first|refine blk_drewN ?_ _|refine blk_drew ?_|refine blk_alloc ?_ _));refine blk_far ?_ NB106_138.out _;(with_reducible repeat(first|refine blk_drewN ?_ _|refine blk_drew ?_|refine blk_alloc ?_ _));refine blk_far ?_ NB106_138.out _;(with_reducible repeat(first|refine blk_drewN ?_ _|refine blk_drew ?_|refine blk_alloc ?_ _));exact BK106.out⟩,⟨by (with_reducible repeat(first|refine blk_drewN ?_ _|refine blk_drew ?_|refine blk_alloc ?_ _));refine blk_put (cs:=#[.int .i64 t119,.int .i64 t120,.int .i64 t121,.int .i64 0]) ?_ 3 _ rfl;(with_reducible repeat(first|refine blk_drewN ?_ _|refine blk_drew ?_|refine blk_alloc ?_ _));refine blk_put (cs:=#[.int .i64 t119,.int .i64 t120,.int .i64 0,.int .i64 0]) ?_ 2 _ rfl;(with_reducible repeat(first|refine blk_drewN ?_ _|refine blk_drew ?_|refine blk_alloc ?_ _));refine blk_put (cs:=#[.int .i64 t119,.int .i64 0,.int .i64 0,.int .i64 0]) ?_ 1 _ rfl;(with_reducible repeat(first|refine blk_drewN ?_ _|refine blk_drew ?_|refine blk_alloc ?_ _));refine blk_put (cs:=#[.int .i64 0,.int .i64 0,.int .i64 0,.int .i64 0]) ?_ 0 _ rfl;(with_reducible repeat(first|refine blk_drewN ?_ _|refine blk_drew ?_|refine blk_alloc ?_ _));exact BK138.out⟩,⟨by repeat(first|(with_reducible first|exact HB.out|apply below_alloc|apply pw_below_drewN|apply below_drew1|refine below_set ?_ GE106.out|refine below_set ?_ GE138.out)|exact HB.out)⟩⟩
        case rest =>
         clear HC55
         try clear c1
         try clear c2
         try clear p2
         try clear c3
         try clear c4
         try clear c5
         try clear c6
         try clear c6b0
         try clear p6
         try clear c7
         try clear c10
         try clear c12
         try clear c12b0
         try clear c13
         try clear c13b0
         try clear c14
         try clear c16
         try clear c18
         try clear c19
         try clear c19b0
         try clear c20
         try clear c22
         try clear c24
         try clear c27
         try clear c29
         try clear c29b0
         try clear c30
         try clear c30b0
         try clear c30b1
         try clear c31
         try clear c34
         try clear c36
         try clear c37
         try clear c37b0
         try clear c38
         try clear c40
         try clear c42
         try clear c45
         try clear c47
         try clear c47b0
         try clear c48
         try clear c49
         try clear c49b0
         try clear c50
         try clear c52
         try clear c54
         try clear c57
         try clear c59
         try clear c59b0
         try clear hcz11_0
         try clear hcz11_1
         try clear hcz11_2
         try clear hcz11_3
         try clear hcz15_0
         try clear hcz15_1
         try clear hcz15_2
         try clear hcz15_3
         try clear hcz17_0
         try clear hcz17_1
         try clear hcz17_2
         try clear hcz17_3
         try clear hcz21_0
         try clear hcz21_1
         try clear hcz21_2
         try clear hcz21_3
         try clear hcz23_0
         try clear hcz23_1
         try clear hcz23_2
         try clear hcz23_3
         try clear hcz28_0
         try clear hcz28_1
         try clear hcz28_2
         try clear hcz28_3
         try clear hcz32_0
         try clear hcz32_1
         try clear hcz32_2
         try clear hcz32_3
         try clear hcz32_4
         try clear hcz32_5
         try clear hcz32_6
         try clear hcz33_0
         try clear hcz33_1
         try clear hcz33_2
         try clear hcz33_3
         try clear hcz35_0
         try clear hcz35_1
         try clear hcz35_2
         try clear hcz35_3
         try clear hcz35_4
         try clear hcz35_5
         try clear hcz35_6
         try clear hcz39_0
         try clear hcz39_1
         try clear hcz39_2
         try clear hcz39_3
         try clear hcz41_0
         try clear hcz41_1
         try clear hcz41_2
         try clear hcz41_3
         try clear hcz46_0
         try clear hcz46_1
         try clear hcz46_2
         try clear hcz46_3
         try clear hcz4_0
         try clear hcz4_1
         try clear hcz4_2
         try clear hcz4_3
         try clear hcz4_4
         try clear hcz4_5
         try clear hcz4_6
         try clear hcz51_0
         try clear hcz51_1
         try clear hcz51_2
         try clear hcz51_3
         try clear hcz53_0
         try clear hcz53_1
         try clear hcz53_2
         try clear hcz53_3
         try clear hcz58_0
         try clear hcz58_1
         try clear hcz58_2
         try clear hcz58_3
         try clear hfz11_0
         try clear hfz11_1
         try clear hfz11_2
         try clear hfz11_3
         try clear hfz15_0
         try clear hfz15_1
         try clear hfz15_2
         try clear hfz15_3
         try clear hfz17_0
         try clear hfz17_1
         try clear hfz17_2
         try clear hfz17_3
         try clear hfz21_0
         try clear hfz21_1
         try clear hfz21_2
         try clear hfz21_3
         try clear hfz23_0
         try clear hfz23_1
         try clear hfz23_2
         try clear hfz23_3
         try clear hfz28_0
         try clear hfz28_1
         try clear hfz28_2
         try clear hfz28_3
         try clear hfz32_0
         try clear hfz32_1
         try clear hfz32_2
         try clear hfz32_3
         try clear hfz32_4
         try clear hfz32_5
         try clear hfz32_6
         try clear hfz33_0
         try clear hfz33_1
         try clear hfz33_2
         try clear hfz33_3
         try clear hfz35_0
         try clear hfz35_1
         try clear hfz35_2
         try clear hfz35_3
         try clear hfz35_4
         try clear hfz35_5
         try clear hfz35_6
         try clear hfz39_0
         try clear hfz39_1
         try clear hfz39_2
         try clear hfz39_3
         try clear hfz41_0
         try clear hfz41_1
         try clear hfz41_2
         try clear hfz41_3
         try clear hfz46_0
         try clear hfz46_1
         try clear hfz46_2
         try clear hfz46_3
         try clear hfz4_0
         try clear hfz4_1
         try clear hfz4_2
         try clear hfz4_3
         try clear hfz4_4
         try clear hfz4_5
         try clear hfz4_6
         try clear hfz51_0
         try clear hfz51_1
         try clear hfz51_2
         try clear hfz51_3
         try clear hfz53_0
         try clear hfz53_1
         try clear hfz53_2
         try clear hfz53_3
         try clear hfz58_0
         try clear hfz58_1
         try clear hfz58_2
         try clear hfz58_3
         try clear p2
         try clear p6
         obtain ⟨kq,x11_54,rfl,HA,HJ54,BK106,BK138,HB⟩:=hcut
         cases kq with
         | zero=>exact absurd HA.out (by simp [config_Check.j4])
         | succ kj54 =>
          have H:=HA.out
          clear HA
          simp only [config_Check.j4] at H
          by_cases c60 : x11_54 = true
          ·subst c60
           have H1 : (some 3) = some r:=by rw [if_pos rfl] at H;exact H
           clear H
           have H:=H1
           clear H1
           obtain rfl:=Option.some.inj H
           go_wp2
           go_ret
           exact ⟨by first|rfl|(simp [errW_none,errW_some] <;> rfl)|(simp [*,errW_none,errW_some] <;> rfl),by repeat(first|(with_reducible first|exact HB.out|apply below_alloc|apply pw_below_drewN|apply below_drew1|refine below_set ?_ GE106.out|refine below_set ?_ GE138.out)|exact HB.out)⟩
          ·replace c60:=Bool.eq_false_iff.mpr c60
           subst c60
           have H1 : (if t119 > t121 then (some 4) else (config_Check.l0 kj54 (wrap64 (3 + 1)) a0_0 a0_1 a0_2 a0_3 a0_4 a0_5 a0_6 t107 t108 t109 t110 t111 t112 t113 t114 t115 t116 t117 t118 t119 t120 t121 t122 t123 t124 t125 t126 t127 t128 t129 t130 t131 t132 t133 t134)) = some r:=by rw [if_neg (show ¬ (false = true) by decide)] at H;exact H
           clear H
           have H:=H1
           clear H1
           by_cases c61 : t119 > t121
           ·rw [if_pos c61] at H
            have c61b0 : decide (t121 < t119) = true:=decide_eq_true c61
            clear c61
            obtain rfl:=Option.some.inj H
            have hnb62:=NB138_106.out
            have hnc62:=NB106_138.out
            have hcz63_0 : wc.cell? ⟨gb138,0,none⟩ = some (.int .i64 t119):=(blk_cell BK138.out 0).trans rfl
            have hcz63_1 : wc.cell? ⟨gb138,1,none⟩ = some (.int .i64 t120):=(blk_cell BK138.out 1).trans rfl
            have hcz63_2 : wc.cell? ⟨gb138,2,none⟩ = some (.int .i64 t121):=(blk_cell BK138.out 2).trans rfl
            have hcz63_3 : wc.cell? ⟨gb138,3,none⟩ = some (.int .i64 t122):=(blk_cell BK138.out 3).trans rfl
            have hfz63_0:=blk_frozen BK138.out 0
            have hfz63_1:=blk_frozen BK138.out 1
            have hfz63_2:=blk_frozen BK138.out 2
            have hfz63_3:=blk_frozen BK138.out 3
            go_wp2
            go_ret
            exact ⟨by first|rfl|(simp [errW_none,errW_some] <;> rfl)|(simp [*,errW_none,errW_some] <;> rfl),by repeat(first|(with_reducible first|exact HB.out|apply below_alloc|apply pw_below_drewN|apply below_drew1|refine below_set ?_ GE106.out|refine below_set ?_ GE138.out)|exact HB.out)⟩
           ·rw [if_neg c61] at H
            have c61b0 : decide (t121 < t119) = false:=decide_eq_false c61
            clear c61
            have H':=Aside0.mk H
            clear H
            have hnb64:=NB138_106.out
            have hnc64:=NB106_138.out
            have hcz65_0 : wc.cell? ⟨gb138,0,none⟩ = some (.int .i64 t119):=(blk_cell BK138.out 0).trans rfl
            have hcz65_1 : wc.cell? ⟨gb138,1,none⟩ = some (.int .i64 t120):=(blk_cell BK138.out 1).trans rfl
            have hcz65_2 : wc.cell? ⟨gb138,2,none⟩ = some (.int .i64 t121):=(blk_cell BK138.out 2).trans rfl
            have hcz65_3 : wc.cell? ⟨gb138,3,none⟩ = some (.int .i64 t122):=(blk_cell BK138.out 3).trans rfl
            have hfz65_0:=blk_frozen BK138.out 0
            have hfz65_1:=blk_frozen BK138.out 1
            have hfz65_2:=blk_frozen BK138.out 2
            have hfz65_3:=blk_frozen BK138.out 3
            go_wp2
            go_roundg kj54
            case measure=>have:=HK1.out;have:=HJ54.out;omega
            case rel=>exact ⟨(wrap64 (3 + 1)),(by first|rfl|(simp;done)|(simp [*];done)|(simp [wrap64];done)|(simp [*,wrap64];done)),H',⟨by have:=HK1.out;have:=HJ54.out;omega⟩,⟨by (with_reducible repeat(first|refine blk_drewN ?_ _|refine blk_drew ?_|refine blk_alloc ?_ _));exact BK106.out⟩,⟨by repeat(first|(with_reducible first|exact HB.out|apply below_alloc|apply pw_below_drewN|apply below_drew1|refine below_set ?_ GE106.out|refine below_set ?_ GE138.out)|exact HB.out)⟩⟩
       ·rw [if_neg c54] at H
        clear c54
        by_cases c66 : x7_1 = 4
        ·subst c66
         have H1 : (if t123 < t124 then (config_Check.j5 k1 4 (decide (t123 < t124)) a0_0 a0_1 a0_2 a0_3 a0_4 a0_5 a0_6 t123 t124 t125 t126 t107 t108 t109 t110 t111 t112 t113 t114 t115 t116 t117 t118 t119 t120 t121 t122 t123 t124 t125 t126 t127 t128 t129 t130 t131 t132 t133 t134) else (config_Check.j5 k1 4 false a0_0 a0_1 a0_2 a0_3 a0_4 a0_5 a0_6 t123 t124 t125 t126 t107 t108 t109 t110 t111 t112 t113 t114 t115 t116 t117 t118 t119 t120 t121 t122 t123 t124 t125 t126 t127 t128 t129 t130 t131 t132 t133 t134)) = some r:=by rw [if_pos rfl] at H;exact H
         clear H
         have H:=H1
         clear H1
         have HC67:=Aside0.mk H
         clear H
         go_upto_if 11 with (first|((with_reducible refine gate_dst (N:=4) rfl ?_);refine box_event ?hg (N:=4) ?hd (cs:=#[.int .i64 0,.int .i64 0,.int .i64 0,.int .i64 0]) (t:=113) ?hr ?_;(case hd=>rfl);(case hg=>rfl);(case hr=>first|(go_simp;done)|(go_simp;rfl));intro gb139 hg w68 hbox hb;have n0_:=Aside0.mk (blk_below (g:=gb106) (o:=.cells #[.int .i64 a0_0,.int .i64 a0_1,.int .i64 a0_2,.int .i64 a0_3,.int .i64 a0_4,.int .i64 a0_5,.int .i64 a0_6] 23 (0,0)) (by (with_reducible repeat(first|refine blk_drewN ?_ _|refine blk_drew ?_|refine blk_alloc ?_ _));exact BK106.out) hb);have n1_:=Aside0.mk (below_step (by repeat(first|(with_reducible first|exact HB.out|apply below_alloc|apply pw_below_drewN|apply below_drew1|refine below_set ?_ GE106.out)|exact HB.out)) hb);have n2_:=Aside0.mk (hbox);have n3_:=Aside0.mk ((by rw [hg];exact (below_size (by repeat(first|(with_reducible first|exact HB.out|apply below_alloc|apply pw_below_drewN|apply below_drew1|refine below_set ?_ GE106.out)|exact HB.out))) : w.heap.size ≤ gb139));have n4_:=Aside0.mk ((by rw [hg];exact (below_size (by repeat(first|(with_reducible first|exact HB.out|apply below_alloc|apply pw_below_drewN|apply below_drew1|refine below_set ?_ GE106.out)|exact HB.out))) : w.heap.size ≤ gb139));have n5_:=Aside0.mk ((by rw [hg];exact Nat.ne_of_lt (blk_lt (g:=gb106) (o:=.cells #[.int .i64 a0_0,.int .i64 a0_1,.int .i64 a0_2,.int .i64 a0_3,.int .i64 a0_4,.int .i64 a0_5,.int .i64 a0_6] 23 (0,0)) (by (with_reducible repeat(first|refine blk_drewN ?_ _|refine blk_drew ?_|refine blk_alloc ?_ _));exact BK106.out)) : gb106 ≠ gb139));have n6_:=Aside0.mk ((by rw [hg];exact Nat.ne_of_gt (blk_lt (g:=gb106) (o:=.cells #[.int .i64 a0_0,.int .i64 a0_1,.int .i64 a0_2,.int .i64 a0_3,.int .i64 a0_4,.int .i64 a0_5,.int .i64 a0_6] 23 (0,0)) (by (with_reducible repeat(first|refine blk_drewN ?_ _|refine blk_drew ?_|refine blk_alloc ?_ _));exact BK106.out)) : gb139 ≠ gb106));clear BK106;clear HB;have BK106:=n0_;have HB:=n1_;have BK139:=n2_;have GW139:=n3_;have GE139:=n4_;have NB106_139:=n5_;have NB139_106:=n6_;clear n0_ n1_ n2_ n3_ n4_ n5_ n6_;clear hb hbox hg;have hnb69:=NB139_106.out;have hnc69:=NB106_139.out;have hcz70_0 : w68.cell? ⟨gb139,0,none⟩ = some (.int .i64 0):=(blk_cell BK139.out 0).trans rfl;have hcz70_1 : w68.cell? ⟨gb139,1,none⟩ = some (.int .i64 0):=(blk_cell BK139.out 1).trans rfl;have hcz70_2 : w68.cell? ⟨gb139,2,none⟩ = some (.int .i64 0):=(blk_cell BK139.out 2).trans rfl;have hcz70_3 : w68.cell? ⟨gb139,3,none⟩ = some (.int .i64 0):=(blk_cell BK139.out 3).trans rfl;have hfz70_0:=blk_frozen BK139.out 0;have hfz70_1:=blk_frozen BK139.out 1;have hfz70_2:=blk_frozen BK139.out 2;have hfz70_3:=blk_frozen BK139.out 3))
         (try simp only [Act.put,List.setIfInBounds_toArray,List.set_cons_zero,List.set_cons_succ])
         go_cut [11] (fun v11 wc=>∃ (kq : Nat) (x11_66 : Bool),v11 = .bool x11_66 ∧ Aside0 (config_Check.j5 kq 4 x11_66 a0_0 a0_1 a0_2 a0_3 a0_4 a0_5 a0_6 t123 t124 t125 t126 t107 t108 t109 t110 t111 t112 t113 t114 t115 t116 t117 t118 t119 t120 t121 t122 t123 t124 t125 t126 t127 t128 t129 t130 t131 t132 t133 t134 = some r) ∧ Aside0 (kq ≤ k1) ∧ Aside0 (wc.heap[gb106]? = some (.cells #[.int .i64 a0_0,.int .i64 a0_1,.int .i64 a0_2,.int .i64 a0_3,.int .i64 a0_4,.int .i64 a0_5,.int .i64 a0_6] 23 (0,0))) ∧ Aside0 (wc.heap[gb139]? = some (.cells #[.int .i64 t123,.int .i64 t124,.int .i64 t125,.int .i64 t126] 113 (0,0))) ∧ Aside0 (Below w.heap.size w wc))
         case first =>
          have H:=HC67.out
          clear HC67
          by_cases c71 : t123 < t124
          ·rw [if_pos c71] at H
           have c71b0 : decide (t123 < t124) = true:=decide_eq_true c71
           clear c71
           (first|rw [c71b0]|(simp only [i64_w,i32_w];rw [c71b0])|skip)
           have H':=Aside0.mk H
           clear H
           go_wp2
           go_meet
           case rel=>exact ⟨_,(decide (t123 < t124)),(by first|rfl|(simp;done)|(simp [*];done)|(simp [wrap64];done)|(simp [*,wrap64];done)),H',⟨by have:=HK1.out;first|omega|exact Nat.le_refl _⟩,⟨by (with_reducible repeat(first|refine blk_drewN ?_ _|refine blk_drew ?_|refine blk_alloc ?_ _));refine blk_far ?_ NB106_139.out _;(with_reducible repeat(first|refine blk_drewN ?_ _|refine blk_drew ?_|refine blk_alloc ?_ _));refine blk_far ?_ NB106_139.out _;(with_reducible repeat(first|refine blk_drewN ?_ _|refine blk_drew ?_|refine blk_alloc ?_ _));refine blk_far ?_ NB106_139.out _;(with_reducible repeat(first|refine blk_drewN ?_ _|refine blk_drew ?_|refine blk_alloc ?_ _));refine blk_far ?_ NB106_139.out _;(with_reducible repeat(first|refine blk_drewN ?_ _|refine blk_drew ?_|refine blk_alloc ?_ _));exact BK106.out⟩,⟨by (with_reducible repeat(first|refine blk_drewN ?_ _|refine blk_drew ?_|refine blk_alloc ?_ _));refine blk_put (cs:=#[.int .i64 t123,.int .i64 t124,.int .i64 t125,.int .i64 0]) ?_ 3 _ rfl;(with_reducible repeat(first|refine blk_drewN ?_ _|refine blk_drew ?_|refine blk_alloc ?_ _));refine blk_put (cs:=#[.int .i64 t123,.int .i64 t124,.int .i64 0,.int .i64 0]) ?_ 2 _ rfl;(with_reducible repeat(first|refine blk_drewN ?_ _|refine blk_drew ?_|refine blk_alloc ?_ _));refine blk_put (cs:=#[.int .i64 t123,.int .i64 0,.int .i64 0,.int .i64 0]) ?_ 1 _ rfl;(with_reducible repeat(first|refine blk_drewN ?_ _|refine blk_drew ?_|refine blk_alloc ?_ _));refine blk_put (cs:=#[.int .i64 0,.int .i64 0,.int .i64 0,.int .i64 0]) ?_ 0 _ rfl;(with_reducible repeat(first|refine blk_drewN ?_ _|refine blk_drew ?_|refine blk_alloc ?_ _));exact BK139.out⟩,⟨by repeat(first|(with_reducible first|exact HB.out|apply below_alloc|apply pw_below_drewN|apply below_drew1|refine below_set ?_ GE106.out|refine below_set ?_ GE139.out)|exact HB.out)⟩⟩
          ·rw [if_neg c71] at H
           have c71b0 : decide (t123 < t124) = false:=decide_eq_false c71
           clear c71
           (first|rw [c71b0]|(simp only [i64_w,i32_w];rw [c71b0])|skip)
           have H':=Aside0.mk H
           clear H
           go_wp2
           go_meet
           case rel=>exact ⟨_,(false),(by first|rfl|(simp;done)|(simp [*];done)|(simp [wrap64];done)|(simp [*,wrap64];done)),H',⟨by have:=HK1.out;first|omega|exact Nat.le_refl _⟩,⟨by (with_reducible repeat(first|refine blk_drewN ?_ _|refine blk_drew ?_|refine blk_alloc ?_ _));refine blk_far ?_ NB106_139.out _;(with_reducible repeat(first|refine blk_drewN ?_ _|refine blk_drew ?_|refine blk_alloc ?_ _));refine blk_far ?_ NB106_139.out _;(with_reducible repeat(first|refine blk_drewN ?_ _|refine blk_drew ?_|refine blk_alloc ?_ _));refine blk_far ?_ NB106_139.out _;(with_reducible repeat(first|refine blk_drewN ?_ _|refine blk_drew ?_|refine blk_alloc ?_ _));refine blk_far ?_ NB106_139.out _;(with_reducible repeat(first|refine blk_drewN ?_ _|refine blk_drew ?_|refine blk_alloc ?_ _));exact BK106.out⟩,⟨by (with_reducible repeat(first|refine blk_drewN ?_ _|refine blk_drew ?_|refine blk_alloc ?_ _));refine blk_put (cs:=#[.int .i64 t123,.int .i64 t124,.int .i64 t125,.int .i64 0]) ?_ 3 _ rfl;(with_reducible repeat(first|refine blk_drewN ?_ _|refine blk_drew ?_|refine blk_alloc ?_ _));refine blk_put (cs:=#[.int .i64 t123,.int .i64 t124,.int .i64 0,.int .i64 0]) ?_ 2 _ rfl;(with_reducible repeat(first|refine blk_drewN ?_ _|refine blk_drew ?_|refine blk_alloc ?_ _));refine blk_put (cs:=#[.int .i64 t123,.int .i64 0,.int .i64 0,.int .i64 0]) ?_ 1 _ rfl;(with_reducible repeat(first|refine blk_drewN ?_ _|refine blk_drew ?_|refine blk_alloc ?_ _));refine blk_put (cs:=#[.int .i64 0,.int .i64 0,.int .i64 0,.int .i64 0]) ?_ 0 _ rfl;(with_reducible repeat(first|refine blk_drewN ?_ _|refine blk_drew ?_|refine blk_alloc ?_ _));exact BK139.out⟩,⟨by repeat(first|(with_reducible first|exact HB.out|apply below_alloc|apply pw_below_drewN|apply below_drew1|refine below_set ?_ GE106.out|refine below_set ?_ GE139.out)|exact HB.out)⟩⟩
         case rest =>
          clear HC67
          try clear c1
          try clear c2
          try clear p2
          try clear c3
          try clear c4
          try clear c5
          try clear c6
          try clear c6b0
          try clear p6
          try clear c7
          try clear c10
          try clear c12
          try clear c12b0
          try clear c13
          try clear c13b0
          try clear c14
          try clear c16
          try clear c18
          try clear c19
          try clear c19b0
          try clear c20
          try clear c22
          try clear c24
          try clear c27
          try clear c29
          try clear c29b0
          try clear c30
          try clear c30b0
          try clear c30b1
          try clear c31
          try clear c34
          try clear c36
          try clear c37
          try clear c37b0
          try clear c38
          try clear c40
          try clear c42
          try clear c45
          try clear c47
          try clear c47b0
          try clear c48
          try clear c49
          try clear c49b0
          try clear c50
          try clear c52
          try clear c54
          try clear c57
          try clear c59
          try clear c59b0
          try clear c60
          try clear c61
          try clear c61b0
          try clear c62
          try clear c64
          try clear p64
          try clear c66
          try clear c69
          try clear c71
          try clear c71b0
          try clear hcz11_0
          try clear hcz11_1
          try clear hcz11_2
          try clear hcz11_3
          try clear hcz15_0
          try clear hcz15_1
          try clear hcz15_2
          try clear hcz15_3
          try clear hcz17_0
          try clear hcz17_1
          try clear hcz17_2
          try clear hcz17_3
          try clear hcz21_0
          try clear hcz21_1
          try clear hcz21_2
          try clear hcz21_3
          try clear hcz23_0
          try clear hcz23_1
          try clear hcz23_2
          try clear hcz23_3
          try clear hcz28_0
          try clear hcz28_1
          try clear hcz28_2
          try clear hcz28_3
          try clear hcz32_0
          try clear hcz32_1
          try clear hcz32_2
          try clear hcz32_3
          try clear hcz32_4
          try clear hcz32_5
          try clear hcz32_6
          try clear hcz33_0
          try clear hcz33_1
          try clear hcz33_2
          try clear hcz33_3
          try clear hcz35_0
          try clear hcz35_1
          try clear hcz35_2
          try clear hcz35_3
          try clear hcz35_4
          try clear hcz35_5
          try clear hcz35_6
          try clear hcz39_0
          try clear hcz39_1
          try clear hcz39_2
          try clear hcz39_3
          try clear hcz41_0
          try clear hcz41_1
          try clear hcz41_2
          try clear hcz41_3
          try clear hcz46_0
          try clear hcz46_1
          try clear hcz46_2
          try clear hcz46_3
          try clear hcz4_0
          try clear hcz4_1
          try clear hcz4_2
          try clear hcz4_3
          try clear hcz4_4
          try clear hcz4_5
          try clear hcz4_6
          try clear hcz51_0
          try clear hcz51_1
          try clear hcz51_2
          try clear hcz51_3
          try clear hcz53_0
          try clear hcz53_1
          try clear hcz53_2
          try clear hcz53_3
          try clear hcz58_0
          try clear hcz58_1
          try clear hcz58_2
          try clear hcz58_3
          try clear hcz63_0
          try clear hcz63_1
          try clear hcz63_2
          try clear hcz63_3
          try clear hcz65_0
          try clear hcz65_1
          try clear hcz65_2
          try clear hcz65_3
          try clear hcz70_0
          try clear hcz70_1
          try clear hcz70_2
          try clear hcz70_3
          try clear hfz11_0
          try clear hfz11_1
          try clear hfz11_2
          try clear hfz11_3
          try clear hfz15_0
          try clear hfz15_1
          try clear hfz15_2
          try clear hfz15_3
          try clear hfz17_0
          try clear hfz17_1
          try clear hfz17_2
          try clear hfz17_3
          try clear hfz21_0
          try clear hfz21_1
          try clear hfz21_2
          try clear hfz21_3
          try clear hfz23_0
          try clear hfz23_1
          try clear hfz23_2
          try clear hfz23_3
          try clear hfz28_0
          try clear hfz28_1
          try clear hfz28_2
          try clear hfz28_3
          try clear hfz32_0
          try clear hfz32_1
          try clear hfz32_2
          try clear hfz32_3
          try clear hfz32_4
          try clear hfz32_5
          try clear hfz32_6
          try clear hfz33_0
          try clear hfz33_1
          try clear hfz33_2
          try clear hfz33_3
          try clear hfz35_0
          try clear hfz35_1
          try clear hfz35_2
          try clear hfz35_3
          try clear hfz35_4
          try clear hfz35_5
          try clear hfz35_6
          try clear hfz39_0
          try clear hfz39_1
          try clear hfz39_2
          try clear hfz39_3
          try clear hfz41_0
          try clear hfz41_1
          try clear hfz41_2
          try clear hfz41_3
          try clear hfz46_0
          try clear hfz46_1
          try clear hfz46_2
          try clear hfz46_3
          try clear hfz4_0
          try clear hfz4_1
          try clear hfz4_2
          try clear hfz4_3
          try clear hfz4_4
          try clear hfz4_5
          try clear hfz4_6
          try clear hfz51_0
          try clear hfz51_1
          try clear hfz51_2
          try clear hfz51_3
          try clear hfz53_0
          try clear hfz53_1
          try clear hfz53_2
          try clear hfz53_3
          try clear hfz58_0
          try clear hfz58_1
          try clear hfz58_2
          try clear hfz58_3
          try clear hfz63_0
          try clear hfz63_1
          try clear hfz63_2
          try clear hfz63_3
          try clear hfz65_0
          try clear hfz65_1
          try clear hfz65_2
          try clear hfz65_3
          try clear hfz70_0
          try clear hfz70_1
          try clear hfz70_2
          try clear hfz70_3
          try clear p2
          try clear p6
          obtain ⟨kq,x11_66,rfl,HA,HJ66,BK106,BK139,HB⟩:=hcut
          cases kq with
          | zero=>exact absurd HA.out (by simp [config_Check.j5])
          | succ kj66 =>
           have H:=HA.out
           clear HA
           simp only [config_Check.j5] at H
           by_cases c72 : x11_66 = true
           ·subst c72
            have H1 : (some 3) = some r:=by rw [if_pos rfl] at H;exact H
            clear H
            have H:=H1
            clear H1
            obtain rfl:=Option.some.inj H
            go_wp2
            go_ret
            exact ⟨by first|rfl|(simp [errW_none,errW_some] <;> rfl)|(simp [*,errW_none,errW_some] <;> rfl),by repeat(first|(with_reducible first|exact HB.out|apply below_alloc|apply pw_below_drewN|apply below_drew1|refine below_set ?_ GE106.out|refine below_set ?_ GE139.out)|exact HB.out)⟩
           ·replace c72:=Bool.eq_false_iff.mpr c72
            subst c72
            have H1 : (if t123 > t125 then (some 4) else (config_Check.l0 kj66 (wrap64 (4 + 1)) a0_0 a0_1 a0_2 a0_3 a0_4 a0_5 a0_6 t107 t108 t109 t110 t111 t112 t113 t114 t115 t116 t117 t118 t119 t120 t121 t122 t123 t124 t125 t126 t127 t128 t129 t130 t131 t132 t133 t134)) = some r:=by rw [if_neg (show ¬ (false = true) by decide)] at H;exact H
            clear H
            have H:=H1
            clear H1
            by_cases c73 : t123 > t125
            ·rw [if_pos c73] at H
             have c73b0 : decide (t125 < t123) = true:=decide_eq_true c73
             clear c73
             obtain rfl:=Option.some.inj H
             have hnb74:=NB139_106.out
             have hnc74:=NB106_139.out
             have hcz75_0 : wc.cell? ⟨gb139,0,none⟩ = some (.int .i64 t123):=(blk_cell BK139.out 0).trans rfl
             have hcz75_1 : wc.cell? ⟨gb139,1,none⟩ = some (.int .i64 t124):=(blk_cell BK139.out 1).trans rfl
             have hcz75_2 : wc.cell? ⟨gb139,2,none⟩ = some (.int .i64 t125):=(blk_cell BK139.out 2).trans rfl
             have hcz75_3 : wc.cell? ⟨gb139,3,none⟩ = some (.int .i64 t126):=(blk_cell BK139.out 3).trans rfl
             have hfz75_0:=blk_frozen BK139.out 0
             have hfz75_1:=blk_frozen BK139.out 1
             have hfz75_2:=blk_frozen BK139.out 2
             have hfz75_3:=blk_frozen BK139.out 3
             go_wp2
             go_ret
             exact ⟨by first|rfl|(simp [errW_none,errW_some] <;> rfl)|(simp [*,errW_none,errW_some] <;> rfl),by repeat(first|(with_reducible first|exact HB.out|apply below_alloc|apply pw_below_drewN|apply below_drew1|refine below_set ?_ GE106.out|refine below_set ?_ GE139.out)|exact HB.out)⟩
            ·rw [if_neg c73] at H
             have c73b0 : decide (t125 < t123) = false:=decide_eq_false c73
             clear c73
             have H':=Aside0.mk H
             clear H
             have hnb76:=NB139_106.out
             have hnc76:=NB106_139.out
             have hcz77_0 : wc.cell? ⟨gb139,0,none⟩ = some (.int .i64 t123):=(blk_cell BK139.out 0).trans rfl
             have hcz77_1 : wc.cell? ⟨gb139,1,none⟩ = some (.int .i64 t124):=(blk_cell BK139.out 1).trans rfl
             have hcz77_2 : wc.cell? ⟨gb139,2,none⟩ = some (.int .i64 t125):=(blk_cell BK139.out 2).trans rfl
             have hcz77_3 : wc.cell? ⟨gb139,3,none⟩ = some (.int .i64 t126):=(blk_cell BK139.out 3).trans rfl
             have hfz77_0:=blk_frozen BK139.out 0
             have hfz77_1:=blk_frozen BK139.out 1
             have hfz77_2:=blk_frozen BK139.out 2
             have hfz77_3:=blk_frozen BK139.out 3
             go_wp2
             go_roundg kj66
             case measure=>have:=HK1.out;have:=HJ66.out;omega
             case rel=>exact ⟨(wrap64 (4 + 1)),(by first|rfl|(simp;done)|(simp [*];done)|(simp [wrap64];done)|(simp [*,wrap64];done)),H',⟨by have:=HK1.out;have:=HJ66.out;omega⟩,⟨by (with_reducible repeat(first|refine blk_drewN ?_ _|refine blk_drew ?_|refine blk_alloc ?_ _));exact BK106.out⟩,⟨by repeat(first|(with_reducible first|exact HB.out|apply below_alloc|apply pw_below_drewN|apply below_drew1|refine below_set ?_ GE106.out|refine below_set ?_ GE139.out)|exact HB.out)⟩⟩
        ·rw [if_neg c66] at H
         clear c66
         by_cases c78 : x7_1 = 5
         ·subst c78
          have H1 : (if t127 < t128 then (config_Check.j6 k1 5 (decide (t127 < t128)) a0_0 a0_1 a0_2 a0_3 a0_4 a0_5 a0_6 t127 t128 t129 t130 t107 t108 t109 t110 t111 t112 t113 t114 t115 t116 t117 t118 t119 t120 t121 t122 t123 t124 t125 t126 t127 t128 t129 t130 t131 t132 t133 t134) else (config_Check.j6 k1 5 false a0_0 a0_1 a0_2 a0_3 a0_4 a0_5 a0_6 t127 t128 t129 t130 t107 t108 t109 t110 t111 t112 t113 t114 t115 t116 t117 t118 t119 t120 t121 t122 t123 t124 t125 t126 t127 t128 t129 t130 t131 t132 t133 t134)) = some r:=by rw [if_pos rfl] at H;exact H
          clear H
          have H:=H1
          clear H1
          have HC79:=Aside0.mk H
          clear H
          go_upto_if 11 with (first|((with_reducible refine gate_dst (N:=4) rfl ?_);refine box_event ?hg (N:=4) ?hd (cs:=#[.int .i64 0,.int .i64 0,.int .i64 0,.int .i64 0]) (t:=113) ?hr ?_;(case hd=>rfl);(case hg=>rfl);(case hr=>first|(go_simp;done)|(go_simp;rfl));intro gb140 hg w80 hbox hb;have n0_:=Aside0.mk (blk_below (g:=gb106) (o:=.cells #[.int .i64 a0_0,.int .i64 a0_1,.int .i64 a0_2,.int .i64 a0_3,.int .i64 a0_4,.int .i64 a0_5,.int .i64 a0_6] 23 (0,0)) (by (with_reducible repeat(first|refine blk_drewN ?_ _|refine blk_drew ?_|refine blk_alloc ?_ _));exact BK106.out) hb);have n1_:=Aside0.mk (below_step (by repeat(first|(with_reducible first|exact HB.out|apply below_alloc|apply pw_below_drewN|apply below_drew1|refine below_set ?_ GE106.out)|exact HB.out)) hb);have n2_:=Aside0.mk (hbox);have n3_:=Aside0.mk ((by rw [hg];exact (below_size (by repeat(first|(with_reducible first|exact HB.out|apply below_alloc|apply pw_below_drewN|apply below_drew1|refine below_set ?_ GE106.out)|exact HB.out))) : w.heap.size ≤ gb140));have n4_:=Aside0.mk ((by rw [hg];exact (below_size (by repeat(first|(with_reducible first|exact HB.out|apply below_alloc|apply pw_below_drewN|apply below_drew1|refine below_set ?_ GE106.out)|exact HB.out))) : w.heap.size ≤ gb140));have n5_:=Aside0.mk ((by rw [hg];exact Nat.ne_of_lt (blk_lt (g:=gb106) (o:=.cells #[.int .i64 a0_0,.int .i64 a0_1,.int .i64 a0_2,.int .i64 a0_3,.int .i64 a0_4,.int .i64 a0_5,.int .i64 a0_6] 23 (0,0)) (by (with_reducible repeat(first|refine blk_drewN ?_ _|refine blk_drew ?_|refine blk_alloc ?_ _));exact BK106.out)) : gb106 ≠ gb140));have n6_:=Aside0.mk ((by rw [hg];exact Nat.ne_of_gt (blk_lt (g:=gb106) (o:=.cells #[.int .i64 a0_0,.int .i64 a0_1,.int .i64 a0_2,.int .i64 a0_3,.int .i64 a0_4,.int .i64 a0_5,.int .i64 a0_6] 23 (0,0)) (by (with_reducible repeat(first|refine blk_drewN ?_ _|refine blk_drew ?_|refine blk_alloc ?_ _));exact BK106.out)) : gb140 ≠ gb106));clear BK106;clear HB;have BK106:=n0_;have HB:=n1_;have BK140:=n2_;have GW140:=n3_;have GE140:=n4_;have NB106_140:=n5_;have NB140_106:=n6_;clear n0_ n1_ n2_ n3_ n4_ n5_ n6_;clear hb hbox hg;have hnb81:=NB140_106.out;have hnc81:=NB106_140.out;have hcz82_0 : w80.cell? ⟨gb140,0,none⟩ = some (.int .i64 0):=(blk_cell BK140.out 0).trans rfl;have hcz82_1 : w80.cell? ⟨gb140,1,none⟩ = some (.int .i64 0):=(blk_cell BK140.out 1).trans rfl;have hcz82_2 : w80.cell? ⟨gb140,2,none⟩ = some (.int .i64 0):=(blk_cell BK140.out 2).trans rfl;have hcz82_3 : w80.cell? ⟨gb140,3,none⟩ = some (.int .i64 0):=(blk_cell BK140.out 3).trans rfl;have hfz82_0:=blk_frozen BK140.out 0;have hfz82_1:=blk_frozen BK140.out 1;have hfz82_2:=blk_frozen BK140.out 2;have hfz82_3:=blk_frozen BK140.out 3))
          (try simp only [Act.put,List.setIfInBounds_toArray,List.set_cons_zero,List.set_cons_succ])
          go_cut [11] (fun v11 wc=>∃ (kq : Nat) (x11_78 : Bool),v11 = .bool x11_78 ∧ Aside0 (config_Check.j6 kq 5 x11_78 a0_0 a0_1 a0_2 a0_3 a0_4 a0_5 a0_6 t127 t128 t129 t130 t107 t108 t109 t110 t111 t112 t113 t114 t115 t116 t117 t118 t119 t120 t121 t122 t123 t124 t125 t126 t127 t128 t129 t130 t131 t132 t133 t134 = some r) ∧ Aside0 (kq ≤ k1) ∧ Aside0 (wc.heap[gb106]? = some (.cells #[.int .i64 a0_0,.int .i64 a0_1,.int .i64 a0_2,.int .i64 a0_3,.int .i64 a0_4,.int .i64 a0_5,.int .i64 a0_6] 23 (0,0))) ∧ Aside0 (wc.heap[gb140]? = some (.cells #[.int .i64 t127,.int .i64 t128,.int .i64 t129,.int .i64 t130] 113 (0,0))) ∧ Aside0 (Below w.heap.size w wc))
          case first =>
           have H:=HC79.out
           clear HC79
           by_cases c83 : t127 < t128
           ·rw [if_pos c83] at H
            have c83b0 : decide (t127 < t128) = true:=decide_eq_true c83
            clear c83
            (first|rw [c83b0]|(simp only [i64_w,i32_w];rw [c83b0])|skip)
            have H':=Aside0.mk H
            clear H
            go_wp2
            go_meet
            case rel=>exact ⟨_,(decide (t127 < t128)),(by first|rfl|(simp;done)|(simp [*];done)|(simp [wrap64];done)|(simp [*,wrap64];done)),H',⟨by have:=HK1.out;first|omega|exact Nat.le_refl _⟩,⟨by (with_reducible repeat(first|refine blk_drewN ?_ _|refine blk_drew ?_|refine blk_alloc ?_ _));refine blk_far ?_ NB106_140.out _;(with_reducible repeat(first|refine blk_drewN ?_ _|refine blk_drew ?_|refine blk_alloc ?_ _));refine blk_far ?_ NB106_140.out _;(with_reducible repeat(first|refine blk_drewN ?_ _|refine blk_drew ?_|refine blk_alloc ?_ _));refine blk_far ?_ NB106_140.out _;(with_reducible repeat(first|refine blk_drewN ?_ _|refine blk_drew ?_|refine blk_alloc ?_ _));refine blk_far ?_ NB106_140.out _;(with_reducible repeat(first|refine blk_drewN ?_ _|refine blk_drew ?_|refine blk_alloc ?_ _));exact BK106.out⟩,⟨by (with_reducible repeat(first|refine blk_drewN ?_ _|refine blk_drew ?_|refine blk_alloc ?_ _));refine blk_put (cs:=#[.int .i64 t127,.int .i64 t128,.int .i64 t129,.int .i64 0]) ?_ 3 _ rfl;(with_reducible repeat(first|refine blk_drewN ?_ _|refine blk_drew ?_|refine blk_alloc ?_ _));refine blk_put (cs:=#[.int .i64 t127,.int .i64 t128,.int .i64 0,.int .i64 0]) ?_ 2 _ rfl;(with_reducible repeat(first|refine blk_drewN ?_ _|refine blk_drew ?_|refine blk_alloc ?_ _));refine blk_put (cs:=#[.int .i64 t127,.int .i64 0,.int .i64 0,.int .i64 0]) ?_ 1 _ rfl;(with_reducible repeat(first|refine blk_drewN ?_ _|refine blk_drew ?_|refine blk_alloc ?_ _));refine blk_put (cs:=#[.int .i64 0,.int .i64 0,.int .i64 0,.int .i64 0]) ?_ 0 _ rfl;(with_reducible repeat(first|refine blk_drewN ?_ _|refine blk_drew ?_|refine blk_alloc ?_ _));exact BK140.out⟩,⟨by repeat(first|(with_reducible first|exact HB.out|apply below_alloc|apply pw_below_drewN|apply below_drew1|refine below_set ?_ GE106.out|refine below_set ?_ GE140.out)|exact HB.out)⟩⟩
           ·rw [if_neg c83] at H
            have c83b0 : decide (t127 < t128) = false:=decide_eq_false c83
            clear c83
            (first|rw [c83b0]|(simp only [i64_w,i32_w];rw [c83b0])|skip)
            have H':=Aside0.mk H
            clear H
            go_wp2
            go_meet
            case rel=>exact ⟨_,(false),(by first|rfl|(simp;done)|(simp [*];done)|(simp [wrap64];done)|(simp [*,wrap64];done)),H',⟨by have:=HK1.out;first|omega|exact Nat.le_refl _⟩,⟨by (with_reducible repeat(first|refine blk_drewN ?_ _|refine blk_drew ?_|refine blk_alloc ?_ _));refine blk_far ?_ NB106_140.out _;(with_reducible repeat(first|refine blk_drewN ?_ _|refine blk_drew ?_|refine blk_alloc ?_ _));refine blk_far ?_ NB106_140.out _;(with_reducible repeat(first|refine blk_drewN ?_ _|refine blk_drew ?_|refine blk_alloc ?_ _));refine blk_far ?_ NB106_140.out _;(with_reducible repeat(first|refine blk_drewN ?_ _|refine blk_drew ?_|refine blk_alloc ?_ _));refine blk_far ?_ NB106_140.out _;(with_reducible repeat(first|refine blk_drewN ?_ _|refine blk_drew ?_|refine blk_alloc ?_ _));exact BK106.out⟩,⟨by (with_reducible repeat(first|refine blk_drewN ?_ _|refine blk_drew ?_|refine blk_alloc ?_ _));refine blk_put (cs:=#[.int .i64 t127,.int .i64 t128,.int .i64 t129,.int .i64 0]) ?_ 3 _ rfl;(with_reducible repeat(first|refine blk_drewN ?_ _|refine blk_drew ?_|refine blk_alloc ?_ _));refine blk_put (cs:=#[.int .i64 t127,.int .i64 t128,.int .i64 0,.int .i64 0]) ?_ 2 _ rfl;(with_reducible repeat(first|refine blk_drewN ?_ _|refine blk_drew ?_|refine blk_alloc ?_ _));refine blk_put (cs:=#[.int .i64 t127,.int .i64 0,.int .i64 0,.int .i64 0]) ?_ 1 _ rfl;(with_reducible repeat(first|refine blk_drewN ?_ _|refine blk_drew ?_|refine blk_alloc ?_ _));refine blk_put (cs:=#[.int .i64 0,.int .i64 0,.int .i64 0,.int .i64 0]) ?_ 0 _ rfl;(with_reducible repeat(first|refine blk_drewN ?_ _|refine blk_drew ?_|refine blk_alloc ?_ _));exact BK140.out⟩,⟨by repeat(first|(with_reducible first|exact HB.out|apply below_alloc|apply pw_below_drewN|apply below_drew1|refine below_set ?_ GE106.out|refine below_set ?_ GE140.out)|exact HB.out)⟩⟩
          case rest =>
           clear HC79
           try clear c1
           try clear c2
           try clear p2
           try clear c3
           try clear c4
           try clear c5
           try clear c6
           try clear c6b0
           try clear p6
           try clear c7
           try clear c8
           try clear c10
           try clear c12
           try clear c12b0
           try clear c13
           try clear c13b0
           try clear c14
           try clear c16
           try clear c18
           try clear c19
           try clear c19b0
           try clear c20
           try clear c22
           try clear c24
           try clear c27
           try clear c29
           try clear c29b0
           try clear c30
           try clear c30b0
           try clear c30b1
           try clear c31
           try clear c34
           try clear c36
           try clear c37
           try clear c37b0
           try clear c38
           try clear c40
           try clear c42
           try clear c45
           try clear c47
           try clear c47b0
           try clear c48
           try clear c49
           try clear c49b0
           try clear c50
           try clear c52
           try clear c54
           try clear c57
           try clear c59
           try clear c59b0
           try clear c60
           try clear c61
           try clear c61b0
           try clear c62
           try clear c64
           try clear p64
           try clear c66
           try clear c69
           try clear c71
           try clear c71b0
           try clear c72
           try clear c73
           try clear c73b0
           try clear c74
           try clear c76
           try clear c78
           try clear c81
           try clear c83
           try clear c83b0
           try clear hcz11_0
           try clear hcz11_1
           try clear hcz11_2
           try clear hcz11_3
           try clear hcz15_0
           try clear hcz15_1
           try clear hcz15_2
           try clear hcz15_3
           try clear hcz17_0
           try clear hcz17_1
           try clear hcz17_2
           try clear hcz17_3
           try clear hcz21_0
           try clear hcz21_1
           try clear hcz21_2
           try clear hcz21_3
           try clear hcz23_0
           try clear hcz23_1
           try clear hcz23_2
           try clear hcz23_3
           try clear hcz28_0
           try clear hcz28_1
           try clear hcz28_2
           try clear hcz28_3
           try clear hcz32_0
           try clear hcz32_1
           try clear hcz32_2
           try clear hcz32_3
           try clear hcz32_4
           try clear hcz32_5
           try clear hcz32_6
           try clear hcz33_0
           try clear hcz33_1
           try clear hcz33_2
           try clear hcz33_3
           try clear hcz35_0
           try clear hcz35_1
           try clear hcz35_2
           try clear hcz35_3
           try clear hcz35_4
           try clear hcz35_5
           try clear hcz35_6
           try clear hcz39_0
           try clear hcz39_1
           try clear hcz39_2
           try clear hcz39_3
           try clear hcz41_0
           try clear hcz41_1
           try clear hcz41_2
           try clear hcz41_3
           try clear hcz46_0
           try clear hcz46_1
           try clear hcz46_2
           try clear hcz46_3
           try clear hcz4_0
           try clear hcz4_1
           try clear hcz4_2
           try clear hcz4_3
           try clear hcz4_4
           try clear hcz4_5
           try clear hcz4_6
           try clear hcz51_0
           try clear hcz51_1
           try clear hcz51_2
           try clear hcz51_3
           try clear hcz53_0
           try clear hcz53_1
           try clear hcz53_2
           try clear hcz53_3
           try clear hcz58_0
           try clear hcz58_1
           try clear hcz58_2
           try clear hcz58_3
           try clear hcz63_0
           try clear hcz63_1
           try clear hcz63_2
           try clear hcz63_3
           try clear hcz65_0
           try clear hcz65_1
           try clear hcz65_2
           try clear hcz65_3
           try clear hcz70_0
           try clear hcz70_1
           try clear hcz70_2
           try clear hcz70_3
           try clear hcz75_0
           try clear hcz75_1
           try clear hcz75_2
           try clear hcz75_3
           try clear hcz77_0
           try clear hcz77_1
           try clear hcz77_2
           try clear hcz77_3
           try clear hcz82_0
           try clear hcz82_1
           try clear hcz82_2
           try clear hcz82_3
           try clear hfz11_0
           try clear hfz11_1
           try clear hfz11_2
           try clear hfz11_3
           try clear hfz15_0
           try clear hfz15_1
           try clear hfz15_2
           try clear hfz15_3
           try clear hfz17_0
           try clear hfz17_1
           try clear hfz17_2
           try clear hfz17_3
           try clear hfz21_0
           try clear hfz21_1
           try clear hfz21_2
           try clear hfz21_3
           try clear hfz23_0
           try clear hfz23_1
           try clear hfz23_2
           try clear hfz23_3
           try clear hfz28_0
           try clear hfz28_1
           try clear hfz28_2
           try clear hfz28_3
           try clear hfz32_0
           try clear hfz32_1
           try clear hfz32_2
           try clear hfz32_3
           try clear hfz32_4
           try clear hfz32_5
           try clear hfz32_6
           try clear hfz33_0
           try clear hfz33_1
           try clear hfz33_2
           try clear hfz33_3
           try clear hfz35_0
           try clear hfz35_1
           try clear hfz35_2
           try clear hfz35_3
           try clear hfz35_4
           try clear hfz35_5
           try clear hfz35_6
           try clear hfz39_0
           try clear hfz39_1
           try clear hfz39_2
           try clear hfz39_3
           try clear hfz41_0
           try clear hfz41_1
           try clear hfz41_2
           try clear hfz41_3
           try clear hfz46_0
           try clear hfz46_1
           try clear hfz46_2
           try clear hfz46_3
           try clear hfz4_0
           try clear hfz4_1
           try clear hfz4_2
           try clear hfz4_3
           try clear hfz4_4
           try clear hfz4_5
           try clear hfz4_6
           try clear hfz51_0
           try clear hfz51_1
           try clear hfz51_2
           try clear hfz51_3
           try clear hfz53_0
           try clear hfz53_1
           try clear hfz53_2
           try clear hfz53_3
           try clear hfz58_0
           try clear hfz58_1
           try clear hfz58_2
           try clear hfz58_3
           try clear hfz63_0
           try clear hfz63_1
           try clear hfz63_2
           try clear hfz63_3
           try clear hfz65_0
           try clear hfz65_1
           try clear hfz65_2
           try clear hfz65_3
           try clear hfz70_0
           try clear hfz70_1
           try clear hfz70_2
           try clear hfz70_3
           try clear hfz75_0
           try clear hfz75_1
           try clear hfz75_2
           try clear hfz75_3
           try clear hfz77_0
           try clear hfz77_1
           try clear hfz77_2
           try clear hfz77_3
           try clear hfz82_0
           try clear hfz82_1
           try clear hfz82_2
           try clear hfz82_3
           try clear p2
           try clear p6
           try clear p64
           obtain ⟨kq,x11_78,rfl,HA,HJ78,BK106,BK140,HB⟩:=hcut
           cases kq with
           | zero=>exact absurd HA.out (by simp [config_Check.j6])
           | succ kj78 =>
            have H:=HA.out
            clear HA
            simp only [config_Check.j6] at H
            by_cases c84 : x11_78 = true
            ·subst c84
             have H1 : (some 3) = some r:=by rw [if_pos rfl] at H;exact H
             clear H
             have H:=H1
             clear H1
             obtain rfl:=Option.some.inj H
             go_wp2
             go_ret
             exact ⟨by first|rfl|(simp [errW_none,errW_some] <;> rfl)|(simp [*,errW_none,errW_some] <;> rfl),by repeat(first|(with_reducible first|exact HB.out|apply below_alloc|apply pw_below_drewN|apply below_drew1|refine below_set ?_ GE106.out|refine below_set ?_ GE140.out)|exact HB.out)⟩
            ·replace c84:=Bool.eq_false_iff.mpr c84
             subst c84
             have H1 : (if t127 > t129 then (some 4) else (config_Check.l0 kj78 (wrap64 (5 + 1)) a0_0 a0_1 a0_2 a0_3 a0_4 a0_5 a0_6 t107 t108 t109 t110 t111 t112 t113 t114 t115 t116 t117 t118 t119 t120 t121 t122 t123 t124 t125 t126 t127 t128 t129 t130 t131 t132 t133 t134)) = some r:=by rw [if_neg (show ¬ (false = true) by decide)] at H;exact H
             clear H
             have H:=H1
             clear H1
             by_cases c85 : t127 > t129
             ·rw [if_pos c85] at H
              have c85b0 : decide (t129 < t127) = true:=decide_eq_true c85
              clear c85
              obtain rfl:=Option.some.inj H
              have hnb86:=NB140_106.out
              have hnc86:=NB106_140.out
              have hcz87_0 : wc.cell? ⟨gb140,0,none⟩ = some (.int .i64 t127):=(blk_cell BK140.out 0).trans rfl
              have hcz87_1 : wc.cell? ⟨gb140,1,none⟩ = some (.int .i64 t128):=(blk_cell BK140.out 1).trans rfl
              have hcz87_2 : wc.cell? ⟨gb140,2,none⟩ = some (.int .i64 t129):=(blk_cell BK140.out 2).trans rfl
              have hcz87_3 : wc.cell? ⟨gb140,3,none⟩ = some (.int .i64 t130):=(blk_cell BK140.out 3).trans rfl
              have hfz87_0:=blk_frozen BK140.out 0
              have hfz87_1:=blk_frozen BK140.out 1
              have hfz87_2:=blk_frozen BK140.out 2
              have hfz87_3:=blk_frozen BK140.out 3
              go_wp2
              go_ret
              exact ⟨by first|rfl|(simp [errW_none,errW_some] <;> rfl)|(simp [*,errW_none,errW_some] <;> rfl),by repeat(first|(with_reducible first|exact HB.out|apply below_alloc|apply pw_below_drewN|apply below_drew1|refine below_set ?_ GE106.out|refine below_set ?_ GE140.out)|exact HB.out)⟩
             ·rw [if_neg c85] at H
              have c85b0 : decide (t129 < t127) = false:=decide_eq_false c85
              clear c85
              have H':=Aside0.mk H
              clear H
              have hnb88:=NB140_106.out
              have hnc88:=NB106_140.out
              have hcz89_0 : wc.cell? ⟨gb140,0,none⟩ = some (.int .i64 t127):=(blk_cell BK140.out 0).trans rfl
              have hcz89_1 : wc.cell? ⟨gb140,1,none⟩ = some (.int .i64 t128):=(blk_cell BK140.out 1).trans rfl
              have hcz89_2 : wc.cell? ⟨gb140,2,none⟩ = some (.int .i64 t129):=(blk_cell BK140.out 2).trans rfl
              have hcz89_3 : wc.cell? ⟨gb140,3,none⟩ = some (.int .i64 t130):=(blk_cell BK140.out 3).trans rfl
              have hfz89_0:=blk_frozen BK140.out 0
              have hfz89_1:=blk_frozen BK140.out 1
              have hfz89_2:=blk_frozen BK140.out 2
              have hfz89_3:=blk_frozen BK140.out 3
              go_wp2
              go_roundg kj78
              case measure=>have:=HK1.out;have:=HJ78.out;omega
              case rel=>exact ⟨(wrap64 (5 + 1)),(by first|rfl|(simp;done)|(simp [*];done)|(simp [wrap64];done)|(simp [*,wrap64];done)),H',⟨by have:=HK1.out;have:=HJ78.out;omega⟩,⟨by (with_reducible repeat(first|refine blk_drewN ?_ _|refine blk_drew ?_|refine blk_alloc ?_ _));exact BK106.out⟩,⟨by repeat(first|(with_reducible first|exact HB.out|apply below_alloc|apply pw_below_drewN|apply below_drew1|refine below_set ?_ GE106.out|refine below_set ?_ GE140.out)|exact HB.out)⟩⟩
         ·rw [if_neg c78] at H
          clear c78
          by_cases c90 : x7_1 = 6
          ·subst c90
           have H1 : (if t131 < t132 then (config_Check.j7 k1 6 (decide (t131 < t132)) a0_0 a0_1 a0_2 a0_3 a0_4 a0_5 a0_6 t131 t132 t133 t134 t107 t108 t109 t110 t111 t112 t113 t114 t115 t116 t117 t118 t119 t120 t121 t122 t123 t124 t125 t126 t127 t128 t129 t130 t131 t132 t133 t134) else (config_Check.j7 k1 6 false a0_0 a0_1 a0_2 a0_3 a0_4 a0_5 a0_6 t131 t132 t133 t134 t107 t108 t109 t110 t111 t112 t113 t114 t115 t116 t117 t118 t119 t120 t121 t122 t123 t124 t125 t126 t127 t128 t129 t130 t131 t132 t133 t134)) = some r:=by rw [if_pos rfl] at H;exact H
           clear H
           have H:=H1
           clear H1
           have HC91:=Aside0.mk H
           clear H
           go_upto_if 11 with (first|((with_reducible refine gate_dst (N:=4) rfl ?_);refine box_event ?hg (N:=4) ?hd (cs:=#[.int .i64 0,.int .i64 0,.int .i64 0,.int .i64 0]) (t:=113) ?hr ?_;(case hd=>rfl);(case hg=>rfl);(case hr=>first|(go_simp;done)|(go_simp;rfl));intro gb141 hg w92 hbox hb;have n0_:=Aside0.mk (blk_below (g:=gb106) (o:=.cells #[.int .i64 a0_0,.int .i64 a0_1,.int .i64 a0_2,.int .i64 a0_3,.int .i64 a0_4,.int .i64 a0_5,.int .i64 a0_6] 23 (0,0)) (by (with_reducible repeat(first|refine blk_drewN ?_ _|refine blk_drew ?_|refine blk_alloc ?_ _));exact BK106.out) hb);have n1_:=Aside0.mk (below_step (by repeat(first|(with_reducible first|exact HB.out|apply below_alloc|apply pw_below_drewN|apply below_drew1|refine below_set ?_ GE106.out)|exact HB.out)) hb);have n2_:=Aside0.mk (hbox);have n3_:=Aside0.mk ((by rw [hg];exact (below_size (by repeat(first|(with_reducible first|exact HB.out|apply below_alloc|apply pw_below_drewN|apply below_drew1|refine below_set ?_ GE106.out)|exact HB.out))) : w.heap.size ≤ gb141));have n4_:=Aside0.mk ((by rw [hg];exact (below_size (by repeat(first|(with_reducible first|exact HB.out|apply below_alloc|apply pw_below_drewN|apply below_drew1|refine below_set ?_ GE106.out)|exact HB.out))) : w.heap.size ≤ gb141));have n5_:=Aside0.mk ((by rw [hg];exact Nat.ne_of_lt (blk_lt (g:=gb106) (o:=.cells #[.int .i64 a0_0,.int .i64 a0_1,.int .i64 a0_2,.int .i64 a0_3,.int .i64 a0_4,.int .i64 a0_5,.int .i64 a0_6] 23 (0,0)) (by (with_reducible repeat(first|refine blk_drewN ?_ _|refine blk_drew ?_|refine blk_alloc ?_ _));exact BK106.out)) : gb106 ≠ gb141));have n6_:=Aside0.mk ((by rw [hg];exact Nat.ne_of_gt (blk_lt (g:=gb106) (o:=.cells #[.int .i64 a0_0,.int .i64 a0_1,.int .i64 a0_2,.int .i64 a0_3,.int .i64 a0_4,.int .i64 a0_5,.int .i64 a0_6] 23 (0,0)) (by (with_reducible repeat(first|refine blk_drewN ?_ _|refine blk_drew ?_|refine blk_alloc ?_ _));exact BK106.out)) : gb141 ≠ gb106));clear BK106;clear HB;have BK106:=n0_;have HB:=n1_;have BK141:=n2_;have GW141:=n3_;have GE141:=n4_;have NB106_141:=n5_;have NB141_106:=n6_;clear n0_ n1_ n2_ n3_ n4_ n5_ n6_;clear hb hbox hg;have hnb93:=NB141_106.out;have hnc93:=NB106_141.out;have hcz94_0 : w92.cell? ⟨gb141,0,none⟩ = some (.int .i64 0):=(blk_cell BK141.out 0).trans rfl;have hcz94_1 : w92.cell? ⟨gb141,1,none⟩ = some (.int .i64 0):=(blk_cell BK141.out 1).trans rfl;have hcz94_2 : w92.cell? ⟨gb141,2,none⟩ = some (.int .i64 0):=(blk_cell BK141.out 2).trans rfl;have hcz94_3 : w92.cell? ⟨gb141,3,none⟩ = some (.int .i64 0):=(blk_cell BK141.out 3).trans rfl;have hfz94_0:=blk_frozen BK141.out 0;have hfz94_1:=blk_frozen BK141.out 1;have hfz94_2:=blk_frozen BK141.out 2;have hfz94_3:=blk_frozen BK141.out 3))
           (try simp only [Act.put,List.setIfInBounds_toArray,List.set_cons_zero,List.set_cons_succ])
           go_cut [11] (fun v11 wc=>∃ (kq : Nat) (x11_90 : Bool),v11 = .bool x11_90 ∧ Aside0 (config_Check.j7 kq 6 x11_90 a0_0 a0_1 a0_2 a0_3 a0_4 a0_5 a0_6 t131 t132 t133 t134 t107 t108 t109 t110 t111 t112 t113 t114 t115 t116 t117 t118 t119 t120 t121 t122 t123 t124 t125 t126 t127 t128 t129 t130 t131 t132 t133 t134 = some r) ∧ Aside0 (kq ≤ k1) ∧ Aside0 (wc.heap[gb106]? = some (.cells #[.int .i64 a0_0,.int .i64 a0_1,.int .i64 a0_2,.int .i64 a0_3,.int .i64 a0_4,.int .i64 a0_5,.int .i64 a0_6] 23 (0,0))) ∧ Aside0 (wc.heap[gb141]? = some (.cells #[.int .i64 t131,.int .i64 t132,.int .i64 t133,.int .i64 t134] 113 (0,0))) ∧ Aside0 (Below w.heap.size w wc))
           case first =>
            have H:=HC91.out
            clear HC91
            by_cases c95 : t131 < t132
            ·rw [if_pos c95] at H
             have c95b0 : decide (t131 < t132) = true:=decide_eq_true c95
             clear c95
             (first|rw [c95b0]|(simp only [i64_w,i32_w];rw [c95b0])|skip)
             have H':=Aside0.mk H
             clear H
             go_wp2
             go_meet
             case rel=>exact ⟨_,(decide (t131 < t132)),(by first|rfl|(simp;done)|(simp [*];done)|(simp [wrap64];done)|(simp [*,wrap64];done)),H',⟨by have:=HK1.out;first|omega|exact Nat.le_refl _⟩,⟨by (with_reducible repeat(first|refine blk_drewN ?_ _|refine blk_drew ?_|refine blk_alloc ?_ _));refine blk_far ?_ NB106_141.out _;(with_reducible repeat(first|refine blk_drewN ?_ _|refine blk_drew ?_|refine blk_alloc ?_ _));refine blk_far ?_ NB106_141.out _;(with_reducible repeat(first|refine blk_drewN ?_ _|refine blk_drew ?_|refine blk_alloc ?_ _));refine blk_far ?_ NB106_141.out _;(with_reducible repeat(first|refine blk_drewN ?_ _|refine blk_drew ?_|refine blk_alloc ?_ _));refine blk_far ?_ NB106_141.out _;(with_reducible repeat(first|refine blk_drewN ?_ _|refine blk_drew ?_|refine blk_alloc ?_ _));exact BK106.out⟩,⟨by (with_reducible repeat(first|refine blk_drewN ?_ _|refine blk_drew ?_|refine blk_alloc ?_ _));refine blk_put (cs:=#[.int .i64 t131,.int .i64 t132,.int .i64 t133,.int .i64 0]) ?_ 3 _ rfl;(with_reducible repeat(first|refine blk_drewN ?_ _|refine blk_drew ?_|refine blk_alloc ?_ _));refine blk_put (cs:=#[.int .i64 t131,.int .i64 t132,.int .i64 0,.int .i64 0]) ?_ 2 _ rfl;(with_reducible repeat(first|refine blk_drewN ?_ _|refine blk_drew ?_|refine blk_alloc ?_ _));refine blk_put (cs:=#[.int .i64 t131,.int .i64 0,.int .i64 0,.int .i64 0]) ?_ 1 _ rfl;(with_reducible repeat(first|refine blk_drewN ?_ _|refine blk_drew ?_|refine blk_alloc ?_ _));refine blk_put (cs:=#[.int .i64 0,.int .i64 0,.int .i64 0,.int .i64 0]) ?_ 0 _ rfl;(with_reducible repeat(first|refine blk_drewN ?_ _|refine blk_drew ?_|refine blk_alloc ?_ _));exact BK141.out⟩,⟨by repeat(first|(with_reducible first|exact HB.out|apply below_alloc|apply pw_below_drewN|apply below_drew1|refine below_set ?_ GE106.out|refine below_set ?_ GE141.out)|exact HB.out)⟩⟩
            ·rw [if_neg c95] at H
             have c95b0 : decide (t131 < t132) = false:=decide_eq_false c95
             clear c95
             (first|rw [c95b0]|(simp only [i64_w,i32_w];rw [c95b0])|skip)
             have H':=Aside0.mk H
             clear H
             go_wp2
             go_meet
             case rel=>exact ⟨_,(false),(by first|rfl|(simp;done)|(simp [*];done)|(simp [wrap64];done)|(simp [*,wrap64];done)),H',⟨by have:=HK1.out;first|omega|exact Nat.le_refl _⟩,⟨by (with_reducible repeat(first|refine blk_drewN ?_ _|refine blk_drew ?_|refine blk_alloc ?_ _));refine blk_far ?_ NB106_141.out _;(with_reducible repeat(first|refine blk_drewN ?_ _|refine blk_drew ?_|refine blk_alloc ?_ _));refine blk_far ?_ NB106_141.out _;(with_reducible repeat(first|refine blk_drewN ?_ _|refine blk_drew ?_|refine blk_alloc ?_ _));refine blk_far ?_ NB106_141.out _;(with_reducible repeat(first|refine blk_drewN ?_ _|refine blk_drew ?_|refine blk_alloc ?_ _));refine blk_far ?_ NB106_141.out _;(with_reducible repeat(first|refine blk_drewN ?_ _|refine blk_drew ?_|refine blk_alloc ?_ _));exact BK106.out⟩,⟨by (with_reducible repeat(first|refine blk_drewN ?_ _|refine blk_drew ?_|refine blk_alloc ?_ _));refine blk_put (cs:=#[.int .i64 t131,.int .i64 t132,.int .i64 t133,.int .i64 0]) ?_ 3 _ rfl;(with_reducible repeat(first|refine blk_drewN ?_ _|refine blk_drew ?_|refine blk_alloc ?_ _));refine blk_put (cs:=#[.int .i64 t131,.int .i64 t132,.int .i64 0,.int .i64 0]) ?_ 2 _ rfl;(with_reducible repeat(first|refine blk_drewN ?_ _|refine blk_drew ?_|refine blk_alloc ?_ _));refine blk_put (cs:=#[.int .i64 t131,.int .i64 0,.int .i64 0,.int .i64 0]) ?_ 1 _ rfl;(with_reducible repeat(first|refine blk_drewN ?_ _|refine blk_drew ?_|refine blk_alloc ?_ _));refine blk_put (cs:=#[.int .i64 0,.int .i64 0,.int .i64 0,.int .i64 0]) ?_ 0 _ rfl;(with_reducible repeat(first|refine blk_drewN ?_ _|refine blk_drew ?_|refine blk_alloc ?_ _));exact BK141.out⟩,⟨by repeat(first|(with_reducible first|exact HB.out|apply below_alloc|apply pw_below_drewN|apply below_drew1|refine below_set ?_ GE106.out|refine below_set ?_ GE141.out)|exact HB.out)⟩⟩
           case rest =>
            clear HC91
            try clear c1
            try clear c2
            try clear p2
            try clear c3
            try clear c4
            try clear c5
            try clear c6
            try clear c6b0
            try clear p6
            try clear c7
            try clear c8
            try clear c9
            try clear c10
            try clear c12
            try clear c12b0
            try clear c13
            try clear c13b0
            try clear c14
            try clear c16
            try clear c18
            try clear c19
            try clear c19b0
            try clear c20
            try clear c22
            try clear c24
            try clear c27
            try clear c29
            try clear c29b0
            try clear c30
            try clear c30b0
            try clear c30b1
            try clear c31
            try clear c34
            try clear c36
            try clear c37
            try clear c37b0
            try clear c38
            try clear c40
            try clear c42
            try clear c45
            try clear c47
            try clear c47b0
            try clear c48
            try clear c49
            try clear c49b0
            try clear c50
            try clear c52
            try clear c54
            try clear c57
            try clear c59
            try clear c59b0
            try clear c60
            try clear c61
            try clear c61b0
            try clear c62
            try clear c64
            try clear p64
            try clear c66
            try clear c69
            try clear c71
            try clear c71b0
            try clear c72
            try clear c73
            try clear c73b0
            try clear c74
            try clear c76
            try clear c78
            try clear c81
            try clear c83
            try clear c83b0
            try clear c84
            try clear c85
            try clear c85b0
            try clear c86
            try clear c88
            try clear c90
            try clear c93
            try clear c95
            try clear c95b0
            try clear hcz11_0
            try clear hcz11_1
            try clear hcz11_2
            try clear hcz11_3
            try clear hcz15_0
            try clear hcz15_1
            try clear hcz15_2
            try clear hcz15_3
            try clear hcz17_0
            try clear hcz17_1
            try clear hcz17_2
            try clear hcz17_3
            try clear hcz21_0
            try clear hcz21_1
            try clear hcz21_2
            try clear hcz21_3
            try clear hcz23_0
            try clear hcz23_1
            try clear hcz23_2
            try clear hcz23_3
            try clear hcz28_0
            try clear hcz28_1
            try clear hcz28_2
            try clear hcz28_3
            try clear hcz32_0
            try clear hcz32_1
            try clear hcz32_2
            try clear hcz32_3
            try clear hcz32_4
            try clear hcz32_5
            try clear hcz32_6
            try clear hcz33_0
            try clear hcz33_1
            try clear hcz33_2
            try clear hcz33_3
            try clear hcz35_0
            try clear hcz35_1
            try clear hcz35_2
            try clear hcz35_3
            try clear hcz35_4
            try clear hcz35_5
            try clear hcz35_6
            try clear hcz39_0
            try clear hcz39_1
            try clear hcz39_2
            try clear hcz39_3
            try clear hcz41_0
            try clear hcz41_1
            try clear hcz41_2
            try clear hcz41_3
            try clear hcz46_0
            try clear hcz46_1
            try clear hcz46_2
            try clear hcz46_3
            try clear hcz4_0
            try clear hcz4_1
            try clear hcz4_2
            try clear hcz4_3
            try clear hcz4_4
            try clear hcz4_5
            try clear hcz4_6
            try clear hcz51_0
            try clear hcz51_1
            try clear hcz51_2
            try clear hcz51_3
            try clear hcz53_0
            try clear hcz53_1
            try clear hcz53_2
            try clear hcz53_3
            try clear hcz58_0
            try clear hcz58_1
            try clear hcz58_2
            try clear hcz58_3
            try clear hcz63_0
            try clear hcz63_1
            try clear hcz63_2
            try clear hcz63_3
            try clear hcz65_0
            try clear hcz65_1
            try clear hcz65_2
            try clear hcz65_3
            try clear hcz70_0
            try clear hcz70_1
            try clear hcz70_2
            try clear hcz70_3
            try clear hcz75_0
            try clear hcz75_1
            try clear hcz75_2
            try clear hcz75_3
            try clear hcz77_0
            try clear hcz77_1
            try clear hcz77_2
            try clear hcz77_3
            try clear hcz82_0
            try clear hcz82_1
            try clear hcz82_2
            try clear hcz82_3
            try clear hcz87_0
            try clear hcz87_1
            try clear hcz87_2
            try clear hcz87_3
            try clear hcz89_0
            try clear hcz89_1
            try clear hcz89_2
            try clear hcz89_3
            try clear hcz94_0
            try clear hcz94_1
            try clear hcz94_2
            try clear hcz94_3
            try clear hfz11_0
            try clear hfz11_1
            try clear hfz11_2
            try clear hfz11_3
            try clear hfz15_0
            try clear hfz15_1
            try clear hfz15_2
            try clear hfz15_3
            try clear hfz17_0
            try clear hfz17_1
            try clear hfz17_2
            try clear hfz17_3
            try clear hfz21_0
            try clear hfz21_1
            try clear hfz21_2
            try clear hfz21_3
            try clear hfz23_0
            try clear hfz23_1
            try clear hfz23_2
            try clear hfz23_3
            try clear hfz28_0
            try clear hfz28_1
            try clear hfz28_2
            try clear hfz28_3
            try clear hfz32_0
            try clear hfz32_1
            try clear hfz32_2
            try clear hfz32_3
            try clear hfz32_4
            try clear hfz32_5
            try clear hfz32_6
            try clear hfz33_0
            try clear hfz33_1
            try clear hfz33_2
            try clear hfz33_3
            try clear hfz35_0
            try clear hfz35_1
            try clear hfz35_2
            try clear hfz35_3
            try clear hfz35_4
            try clear hfz35_5
            try clear hfz35_6
            try clear hfz39_0
            try clear hfz39_1
            try clear hfz39_2
            try clear hfz39_3
            try clear hfz41_0
            try clear hfz41_1
            try clear hfz41_2
            try clear hfz41_3
            try clear hfz46_0
            try clear hfz46_1
            try clear hfz46_2
            try clear hfz46_3
            try clear hfz4_0
            try clear hfz4_1
            try clear hfz4_2
            try clear hfz4_3
            try clear hfz4_4
            try clear hfz4_5
            try clear hfz4_6
            try clear hfz51_0
            try clear hfz51_1
            try clear hfz51_2
            try clear hfz51_3
            try clear hfz53_0
            try clear hfz53_1
            try clear hfz53_2
            try clear hfz53_3
            try clear hfz58_0
            try clear hfz58_1
            try clear hfz58_2
            try clear hfz58_3
            try clear hfz63_0
            try clear hfz63_1
            try clear hfz63_2
            try clear hfz63_3
            try clear hfz65_0
            try clear hfz65_1
            try clear hfz65_2
            try clear hfz65_3
            try clear hfz70_0
            try clear hfz70_1
            try clear hfz70_2
            try clear hfz70_3
            try clear hfz75_0
            try clear hfz75_1
            try clear hfz75_2
            try clear hfz75_3
            try clear hfz77_0
            try clear hfz77_1
            try clear hfz77_2
            try clear hfz77_3
            try clear hfz82_0
            try clear hfz82_1
            try clear hfz82_2
            try clear hfz82_3
            try clear hfz87_0
            try clear hfz87_1
            try clear hfz87_2
            try clear hfz87_3
            try clear hfz89_0
            try clear hfz89_1
            try clear hfz89_2
            try clear hfz89_3
            try clear hfz94_0
            try clear hfz94_1
            try clear hfz94_2
            try clear hfz94_3
            try clear p2
            try clear p6
            try clear p64
            obtain ⟨kq,x11_90,rfl,HA,HJ90,BK106,BK141,HB⟩:=hcut
            cases kq with
            | zero=>exact absurd HA.out (by simp [config_Check.j7])
            | succ kj90 =>
             have H:=HA.out
             clear HA
             simp only [config_Check.j7] at H
             by_cases c96 : x11_90 = true
             ·subst c96
              have H1 : (some 3) = some r:=by rw [if_pos rfl] at H;exact H
              clear H
              have H:=H1
              clear H1
              obtain rfl:=Option.some.inj H
              go_wp2
              go_ret
              exact ⟨by first|rfl|(simp [errW_none,errW_some] <;> rfl)|(simp [*,errW_none,errW_some] <;> rfl),by repeat(first|(with_reducible first|exact HB.out|apply below_alloc|apply pw_below_drewN|apply below_drew1|refine below_set ?_ GE106.out|refine below_set ?_ GE141.out)|exact HB.out)⟩
             ·replace c96:=Bool.eq_false_iff.mpr c96
              subst c96
              have H1 : (if t131 > t133 then (some 4) else (config_Check.l0 kj90 (wrap64 (6 + 1)) a0_0 a0_1 a0_2 a0_3 a0_4 a0_5 a0_6 t107 t108 t109 t110 t111 t112 t113 t114 t115 t116 t117 t118 t119 t120 t121 t122 t123 t124 t125 t126 t127 t128 t129 t130 t131 t132 t133 t134)) = some r:=by rw [if_neg (show ¬ (false = true) by decide)] at H;exact H
              clear H
              have H:=H1
              clear H1
              by_cases c97 : t131 > t133
              ·rw [if_pos c97] at H
               have c97b0 : decide (t133 < t131) = true:=decide_eq_true c97
               clear c97
               obtain rfl:=Option.some.inj H
               have hnb98:=NB141_106.out
               have hnc98:=NB106_141.out
               have hcz99_0 : wc.cell? ⟨gb141,0,none⟩ = some (.int .i64 t131):=(blk_cell BK141.out 0).trans rfl
               have hcz99_1 : wc.cell? ⟨gb141,1,none⟩ = some (.int .i64 t132):=(blk_cell BK141.out 1).trans rfl
               have hcz99_2 : wc.cell? ⟨gb141,2,none⟩ = some (.int .i64 t133):=(blk_cell BK141.out 2).trans rfl
               have hcz99_3 : wc.cell? ⟨gb141,3,none⟩ = some (.int .i64 t134):=(blk_cell BK141.out 3).trans rfl
               have hfz99_0:=blk_frozen BK141.out 0
               have hfz99_1:=blk_frozen BK141.out 1
               have hfz99_2:=blk_frozen BK141.out 2
               have hfz99_3:=blk_frozen BK141.out 3
               go_wp2
               go_ret
               exact ⟨by first|rfl|(simp [errW_none,errW_some] <;> rfl)|(simp [*,errW_none,errW_some] <;> rfl),by repeat(first|(with_reducible first|exact HB.out|apply below_alloc|apply pw_below_drewN|apply below_drew1|refine below_set ?_ GE106.out|refine below_set ?_ GE141.out)|exact HB.out)⟩
              ·rw [if_neg c97] at H
               have c97b0 : decide (t133 < t131) = false:=decide_eq_false c97
               clear c97
               have H':=Aside0.mk H
               clear H
               have hnb100:=NB141_106.out
               have hnc100:=NB106_141.out
               have hcz101_0 : wc.cell? ⟨gb141,0,none⟩ = some (.int .i64 t131):=(blk_cell BK141.out 0).trans rfl
               have hcz101_1 : wc.cell? ⟨gb141,1,none⟩ = some (.int .i64 t132):=(blk_cell BK141.out 1).trans rfl
               have hcz101_2 : wc.cell? ⟨gb141,2,none⟩ = some (.int .i64 t133):=(blk_cell BK141.out 2).trans rfl
               have hcz101_3 : wc.cell? ⟨gb141,3,none⟩ = some (.int .i64 t134):=(blk_cell BK141.out 3).trans rfl
               have hfz101_0:=blk_frozen BK141.out 0
               have hfz101_1:=blk_frozen BK141.out 1
               have hfz101_2:=blk_frozen BK141.out 2
               have hfz101_3:=blk_frozen BK141.out 3
               go_wp2
               go_roundg kj90
               case measure=>have:=HK1.out;have:=HJ90.out;omega
               case rel=>exact ⟨(wrap64 (6 + 1)),(by first|rfl|(simp;done)|(simp [*];done)|(simp [wrap64];done)|(simp [*,wrap64];done)),H',⟨by have:=HK1.out;have:=HJ90.out;omega⟩,⟨by (with_reducible repeat(first|refine blk_drewN ?_ _|refine blk_drew ?_|refine blk_alloc ?_ _));exact BK106.out⟩,⟨by repeat(first|(with_reducible first|exact HB.out|apply below_alloc|apply pw_below_drewN|apply below_drew1|refine below_set ?_ GE106.out|refine below_set ?_ GE141.out)|exact HB.out)⟩⟩
          ·rw [if_neg c90] at H
           exact absurd H (by simp)
   ·rw [if_neg c6] at H
    have c6b0 : decide (x7_1 < 7) = false:=decide_eq_false c6
    clear c6
    obtain rfl:=Option.some.inj H
    go_wp2
    go_ret
    exact ⟨by first|rfl|(simp [errW_none,errW_some] <;> rfl)|(simp [*,errW_none,errW_some] <;> rfl),by repeat(first|(with_reducible first|exact HB.out|apply below_alloc|apply pw_below_drewN|apply below_drew1|refine below_set ?_ GE106.out)|exact HB.out)⟩

end Go.Proofs.Ytnagfbadjbkhmaa.PA
