/- The table of functions, and that each stands for the program's. -/
import Derived.Test.YtdnhamehpdlbgaaV27
import Derived.Test.YtdnhamehpdlbgaaS3
import Derived.Test.YtdnhamehpdlbgaaJ0
import Derived.Test.YtdnhamehpdlbgaaProg
import Derived.KernelRfl
namespace Go.Proofs.YtdnhamehpdlbgaaV
open Go
def tab : List (Nat × IFn) := [(8, i8), (28, i28), (40, i40), (42, i42), (48, i48), (49, i49), (50, i50), (65, i65), (88, i88), (92, i92), (95, i95), (105, i105), (108, i108), (109, i109), (111, i111), (112, i112), (116, i116), (117, i117), (118, i118), (119, i119), (120, i120), (121, i121), (134, i134), (137, i137), (138, i138), (139, i139), (141, i141), (166, i166), (167, i167), (169, i169), (170, i170), (172, i172), (174, i174), (175, i175), (176, i176), (178, i178), (179, i179), (180, i180), (181, i181), (183, i183), (184, i184), (185, i185), (186, i186), (187, i187), (195, i195), (207, i207), (210, i210), (213, i213), (215, i215)]
def F (f : Nat) : Option IFn := tab.lookup f
theorem tab_ok : tab.all (fun q => funOk drawOk Try.prog q.1 q.2) = true := by kernel_rfl
theorem lookup_all {l : List (Nat × IFn)} {p : Nat → IFn → Prop} (h : ∀ q, q ∈ l → p q.1 q.2) {f : Nat} {i : IFn} (hf : l.lookup f = some i) : p f i := by
  induction l with
  | nil => simp at hf
  | cons q l ih =>
    obtain ⟨g, j⟩ := q
    simp only [List.lookup_cons] at hf
    split at hf
    · rename_i he
      simp only [beq_iff_eq] at he
      cases hf
      subst he
      exact h (f, i) (List.mem_cons_self ..)
    · exact ih (fun q hq => h q (List.mem_cons_of_mem _ hq)) hf
theorem hF (f : Nat) (i : IFn) (hf : F f = some i) : funOk drawOk Try.prog f i = true :=
  lookup_all (p := fun f i => funOk drawOk Try.prog f i = true) (fun q hq => List.all_eq_true.1 tab_ok q hq) hf
theorem all_calls : CallSpec Try.prog (EE F) := eval_calls (draw_sound (by kernel_rfl)) hF
theorem R8 (x0 : T) : EE F 8 [x0] [] = KK F (FF [.tmp 2] 0) [.code b8] (S0.put 0 (.t x0)) := EE_run (fn := i8) (by kernel_rfl) rfl
theorem R28 : EE F 28 [] [] = KK F (FF [.tmp 0] 0) [.code b28] S0 := EE_run (fn := i28) (by kernel_rfl) rfl
theorem R40 (x0 : T) : EE F 40 [x0] [] = KK F (FF [.tmpd 2, .tmpd 3] 0) [.code b40] (S0.put 0 (.t x0)) := EE_run (fn := i40) (by kernel_rfl) rfl
theorem R42 (x0 : T) : EE F 42 [x0] [] = KK F (FF [.tmpd 2, .tmpd 3] 0) [.code b42] (S0.put 0 (.t x0)) := EE_run (fn := i42) (by kernel_rfl) rfl
theorem R48 (x0 : T) : EE F 48 [x0] [] = KK F (FF [.tmpd 2] 0) [.code b48] (S0.put 0 (.t x0)) := EE_run (fn := i48) (by kernel_rfl) rfl
theorem R49 (x0 x1 : T) : EE F 49 [x0, x1] [] = KK F (FF [.tmp 4] 0) [.code b49] ((S0.put 0 (.t x0)).put 1 (.t x1)) := EE_run (fn := i49) (by kernel_rfl) rfl
theorem R50 (x0 x1 : T) : EE F 50 [x0, x1] [] = KK F (FF [.tmp 4] 0) [.code b50] ((S0.put 0 (.t x0)).put 1 (.t x1)) := EE_run (fn := i50) (by kernel_rfl) rfl
theorem R65 (x0 : T) : EE F 65 [x0] [] = KK F (FF [.tmp 2] 0) [.code b65] (S0.put 0 (.t x0)) := EE_run (fn := i65) (by kernel_rfl) rfl
theorem R88 (x0 : T) : EE F 88 [x0] [] = KK F (FF [.tmp 2] 0) [.code b88] (S0.put 0 (.t x0)) := EE_run (fn := i88) (by kernel_rfl) rfl
theorem R92 (x0 x1 : T) : EE F 92 [x0, x1] [] = KK F (FF [.tmp 4] 0) [.code b92] ((S0.put 0 (.t x0)).put 1 (.t x1)) := EE_run (fn := i92) (by kernel_rfl) rfl
theorem R95 (x0 : T) : EE F 95 [x0] [] = KK F (FF [.tmp 2] 0) [.code b95] (S0.put 0 (.t x0)) := EE_run (fn := i95) (by kernel_rfl) rfl
theorem R105 (x0 : T) : EE F 105 [x0] [] = KK F (FF [.tmp 2] 0) [.code b105] (S0.put 0 (.t x0)) := EE_run (fn := i105) (by kernel_rfl) rfl
theorem R108 (x0 : T) : EE F 108 [x0] [] = KK F (FF [.tmp 2] 0) [.code b108] (S0.put 0 (.t x0)) := EE_run (fn := i108) (by kernel_rfl) rfl
theorem R109 (x0 x1 : T) : EE F 109 [x0, x1] [] = KK F (FF [.tmpd 4, .tmpd 5] 0) [.code b109] ((S0.put 0 (.t x0)).put 1 (.t x1)) := EE_run (fn := i109) (by kernel_rfl) rfl
theorem R111 (x0 : T) : EE F 111 [x0] [] = KK F (FF [.tmp 2] 0) [.code b111] (S0.put 0 (.t x0)) := EE_run (fn := i111) (by kernel_rfl) rfl
theorem R112 (x0 x1 x2 : T) : EE F 112 [x0, x1, x2] [] = KK F (FF [.tmpd 6, .tmpd 7] 0) [.code b112] (((S0.put 0 (.t x0)).put 1 (.t x1)).put 2 (.t x2)) := EE_run (fn := i112) (by kernel_rfl) rfl
theorem R116 (x0 x1 : T) : EE F 116 [x0, x1] [] = KK F (FF [.celld 4 4 true] 0) [.code b116] ((S0.put 0 (.t x0)).put 1 (.t x1)) := EE_run (fn := i116) (by kernel_rfl) rfl
theorem R117 (x0 x1 : T) : EE F 117 [x0, x1] [] = KK F (FF [.tmp 4, .tmp 5] 0) [.code b117] ((S0.put 0 (.t x0)).put 1 (.t x1)) := EE_run (fn := i117) (by kernel_rfl) rfl
theorem R118 (x0 x1 : T) : EE F 118 [x0, x1] [] = KK F (FF [.celld 4 6 true] 0) [.code b118] ((S0.put 0 (.t x0)).put 1 (.t x1)) := EE_run (fn := i118) (by kernel_rfl) rfl
theorem R119 (x0 x1 : T) : EE F 119 [x0, x1] [] = KK F (FF [.tmpd 4] 0) [.code b119] ((S0.put 0 (.t x0)).put 1 (.t x1)) := EE_run (fn := i119) (by kernel_rfl) rfl
theorem R120 (x0 : T) : EE F 120 [x0] [] = KK F (FF [.tmp 2] 0) [.code b120] (S0.put 0 (.t x0)) := EE_run (fn := i120) (by kernel_rfl) rfl
theorem R121 (x0 x1 : T) : EE F 121 [x0, x1] [] = KK F (FF [.tmp 4, .tmp 5] 0) [.code b121] ((S0.put 0 (.t x0)).put 1 (.t x1)) := EE_run (fn := i121) (by kernel_rfl) rfl
theorem R134 (x0 x1 x2 : T) : EE F 134 [x0, x1, x2] [] = KK F (FF [.tmp 6] 0) [.code b134] (((S0.put 0 (.t x0)).put 1 (.t x1)).put 2 (.t x2)) := EE_run (fn := i134) (by kernel_rfl) rfl
theorem R137 (x0 : T) : EE F 137 [x0] [] = KK F (FF [.tmp 2] 0) [.code b137] (S0.put 0 (.t x0)) := EE_run (fn := i137) (by kernel_rfl) rfl
theorem R138 (x0 : T) : EE F 138 [x0] [] = KK F (FF [.tmp 2] 0) [.code b138] (S0.put 0 (.t x0)) := EE_run (fn := i138) (by kernel_rfl) rfl
theorem R139 (x0 : T) : EE F 139 [x0] [] = KK F (FF [.tmp 2] 0) [.code b139] (S0.put 0 (.t x0)) := EE_run (fn := i139) (by kernel_rfl) rfl
theorem R141 (x0 x1 : T) : EE F 141 [x0, x1] [] = KK F (FF [.tmpd 4] 0) [.code b141] ((S0.put 0 (.t x0)).put 1 (.t x1)) := EE_run (fn := i141) (by kernel_rfl) rfl
theorem R166 (x0 x1 : T) : EE F 166 [x0, x1] [] = KK F (FF [.tmp 4] 0) [.code b166] ((S0.put 0 (.t x0)).put 1 (.t x1)) := EE_run (fn := i166) (by kernel_rfl) rfl
theorem R167 (x0 x1 : T) : EE F 167 [x0, x1] [] = KK F (FF [.tmp 4] 0) [.code b167] ((S0.put 0 (.t x0)).put 1 (.t x1)) := EE_run (fn := i167) (by kernel_rfl) rfl
theorem R169 (x0 x1 x2 : T) : EE F 169 [x0, x1, x2] [] = KK F (FF [.tmp 6, .tmp 7] 0) [.code b169] (((S0.put 0 (.t x0)).put 1 (.t x1)).put 2 (.t x2)) := EE_run (fn := i169) (by kernel_rfl) rfl
theorem R170 (x0 x1 : T) : EE F 170 [x0, x1] [] = KK F (FF [.tmpd 4] 0) [.code b170] ((S0.put 0 (.t x0)).put 1 (.t x1)) := EE_run (fn := i170) (by kernel_rfl) rfl
theorem R172 (x0 : T) : EE F 172 [x0] [] = KK F (FF [.tmp 2] 0) [.code b172] (S0.put 0 (.t x0)) := EE_run (fn := i172) (by kernel_rfl) rfl
theorem R174 (x0 : T) : EE F 174 [x0] [] = KK F (FF [.tmp 2] 0) [.code b174] (S0.put 0 (.t x0)) := EE_run (fn := i174) (by kernel_rfl) rfl
theorem R175 (x0 x1 : T) : EE F 175 [x0, x1] [] = KK F (FF [.tmp 4] 0) [.code b175] ((S0.put 0 (.t x0)).put 1 (.t x1)) := EE_run (fn := i175) (by kernel_rfl) rfl
theorem R176 (x0 x1 : T) : EE F 176 [x0, x1] [] = KK F (FF [.tmp 4, .tmp 5] 0) [.code b176] ((S0.put 0 (.t x0)).put 1 (.t x1)) := EE_run (fn := i176) (by kernel_rfl) rfl
theorem R178 (x0 : T) : EE F 178 [x0] [] = KK F (FF [.tmp 2] 0) [.code b178] (S0.put 0 (.t x0)) := EE_run (fn := i178) (by kernel_rfl) rfl
theorem R179 (x0 : T) : EE F 179 [x0] [] = KK F (FF [.tmp 2] 0) [.code b179] (S0.put 0 (.t x0)) := EE_run (fn := i179) (by kernel_rfl) rfl
theorem R180 (x0 x1 : T) : EE F 180 [x0, x1] [] = KK F (FF [.tmp 4, .tmp 5] 0) [.code b180] ((S0.put 0 (.t x0)).put 1 (.t x1)) := EE_run (fn := i180) (by kernel_rfl) rfl
theorem R181 (x0 x1 x2 : T) : EE F 181 [x0, x1, x2] [] = KK F (FF [.tmp 6, .tmp 7] 0) [.code b181] (((S0.put 0 (.t x0)).put 1 (.t x1)).put 2 (.t x2)) := EE_run (fn := i181) (by kernel_rfl) rfl
theorem R183 (x0 x1 : T) : EE F 183 [x0, x1] [] = KK F (FF [.celld 4 4 true] 0) [.code b183] ((S0.put 0 (.t x0)).put 1 (.t x1)) := EE_run (fn := i183) (by kernel_rfl) rfl
theorem R184 (x0 : T) : EE F 184 [x0] [] = KK F (FF [.tmp 2] 0) [.code b184] (S0.put 0 (.t x0)) := EE_run (fn := i184) (by kernel_rfl) rfl
theorem R185 (x0 x1 x2 : T) : EE F 185 [x0, x1, x2] [] = KK F (FF [.tmp 6, .tmp 7] 0) [.code b185] (((S0.put 0 (.t x0)).put 1 (.t x1)).put 2 (.t x2)) := EE_run (fn := i185) (by kernel_rfl) rfl
theorem R186 (x0 x1 : T) : EE F 186 [x0, x1] [] = KK F (FF [.tmp 4] 0) [.code b186] ((S0.put 0 (.t x0)).put 1 (.t x1)) := EE_run (fn := i186) (by kernel_rfl) rfl
theorem R187 (x0 x1 : T) : EE F 187 [x0, x1] [] = KK F (FF [.tmp 4] 0) [.code b187] ((S0.put 0 (.t x0)).put 1 (.t x1)) := EE_run (fn := i187) (by kernel_rfl) rfl
theorem R195 (x0 : T) : EE F 195 [x0] [] = KK F (FF [.tmp 2] 0) [.code b195] (S0.put 0 (.t x0)) := EE_run (fn := i195) (by kernel_rfl) rfl
theorem R207 (x0 : T) : EE F 207 [x0] [] = KK F (FF [.tmp 2] 0) [.code b207] (S0.put 0 (.t x0)) := EE_run (fn := i207) (by kernel_rfl) rfl
theorem R210 (x0 x1 : T) : EE F 210 [x0, x1] [] = KK F (FF [.tmp 4] 0) [.code b210] ((S0.put 0 (.t x0)).put 1 (.t x1)) := EE_run (fn := i210) (by kernel_rfl) rfl
theorem R213 (x0 x1 x2 x3 : T) : EE F 213 [x0, x1, x2, x3] [] = KK F (FF [.tmp 8] 0) [.code b213] ((((S0.put 0 (.t x0)).put 1 (.t x1)).put 2 (.t x2)).put 3 (.t x3)) := EE_run (fn := i213) (by kernel_rfl) rfl
theorem R215 (x0 : T) : EE F 215 [x0] [] = KK F (FF [.tmp 2] 0) [.code b215] (S0.put 0 (.t x0)) := EE_run (fn := i215) (by kernel_rfl) rfl
end Go.Proofs.YtdnhamehpdlbgaaV
