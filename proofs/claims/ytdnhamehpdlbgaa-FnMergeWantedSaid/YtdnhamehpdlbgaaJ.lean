/- The table of functions, and that each stands for the program's. -/
import Derived.Test.YtdnhamehpdlbgaaV27
import Derived.Test.YtdnhamehpdlbgaaS3
import Derived.Test.YtdnhamehpdlbgaaJ0
import Derived.Test.YtdnhamehpdlbgaaProg
import Derived.KernelRfl
namespace Go.Proofs.YtdnhamehpdlbgaaV
open Go
def tab : List (Nat × IFn) := [(13, i13), (28, i28), (65, i65), (66, i66), (68, i68), (69, i69), (71, i71), (72, i72), (73, i73), (74, i74), (75, i75), (76, i76), (88, i88), (92, i92), (95, i95), (100, i100), (101, i101), (102, i102), (103, i103), (104, i104), (105, i105), (106, i106), (117, i117), (120, i120), (121, i121), (125, i125), (126, i126), (133, i133), (134, i134), (135, i135), (136, i136), (137, i137), (138, i138), (139, i139), (140, i140), (141, i141), (142, i142), (144, i144), (145, i145), (146, i146), (147, i147), (148, i148), (149, i149), (166, i166), (167, i167), (169, i169), (170, i170), (171, i171), (172, i172), (174, i174), (175, i175), (176, i176), (178, i178), (184, i184), (185, i185), (186, i186), (187, i187), (189, i189), (190, i190), (195, i195), (196, i196), (197, i197), (198, i198), (199, i199), (207, i207), (210, i210), (215, i215), (216, i216), (217, i217), (218, i218), (219, i219), (234, i234), (235, i235), (236, i236), (237, i237), (246, i246), (247, i247)]
def F (f : Nat) : Option IFn := tab.lookup f
theorem tab_ok : tab.all (fun q => funOk drawOk Try.prog q.1 q.2) = true := by kernel_rfl
theorem lookup_all {l : List (Nat × IFn)} {p : Nat → IFn → Prop} (h : ∀ q, q ∈ l → p q.1 q.2) {f : Nat} {i : IFn} (hf : l.lookup f = some i) : p f i := by
  induction l with
  | nil => simp at hf
  | cons q l ih =>
    obtain ⟨g, j⟩ := q
    simp only [List.lookup_cons] at hf
    split at hf
    · rename_i he
      simp only [beq_iff_eq] at he
      cases hf
      subst he
      exact h (f, i) (List.mem_cons_self ..)
    · exact ih (fun q hq => h q (List.mem_cons_of_mem _ hq)) hf
theorem hF (f : Nat) (i : IFn) (hf : F f = some i) : funOk drawOk Try.prog f i = true :=
  lookup_all (p := fun f i => funOk drawOk Try.prog f i = true) (fun q hq => List.all_eq_true.1 tab_ok q hq) hf
theorem all_calls : CallSpec Try.prog (EE F) := eval_calls (draw_sound (by kernel_rfl)) hF
theorem R13 (x0 : T) : EE F 13 [x0] [] = KK F (FF [.tmp 2] 0) [.code b13] (S0.put 0 (.t x0)) := EE_run (fn := i13) (by kernel_rfl) rfl
theorem R28 : EE F 28 [] [] = KK F (FF [.tmp 0] 0) [.code b28] S0 := EE_run (fn := i28) (by kernel_rfl) rfl
theorem R65 (x0 : T) : EE F 65 [x0] [] = KK F (FF [.tmp 2] 0) [.code b65] (S0.put 0 (.t x0)) := EE_run (fn := i65) (by kernel_rfl) rfl
theorem R66 (x0 x1 : T) : EE F 66 [x0, x1] [] = KK F (FF [.tmp 4] 0) [.code b66] ((S0.put 0 (.t x0)).put 1 (.t x1)) := EE_run (fn := i66) (by kernel_rfl) rfl
theorem R68 (x0 : T) : EE F 68 [x0] [] = KK F (FF [.celld 2 6 true] 0) [.code b68] (S0.put 0 (.t x0)) := EE_run (fn := i68) (by kernel_rfl) rfl
theorem R69 (x0 : T) : EE F 69 [x0] [] = KK F (FF [.tmp 2] 0) [.code b69] (S0.put 0 (.t x0)) := EE_run (fn := i69) (by kernel_rfl) rfl
theorem R71 (x0 : T) : EE F 71 [x0] [] = KK F (FF [.tmp 2] 0) [.code b71] (S0.put 0 (.t x0)) := EE_run (fn := i71) (by kernel_rfl) rfl
theorem R72 (x0 : T) : EE F 72 [x0] [] = KK F (FF [.cell 2 6 true, .cell 3 6 true, .tmp 4] 0) [.code b72] (S0.put 0 (.t x0)) := EE_run (fn := i72) (by kernel_rfl) rfl
theorem R73 (x0 : T) : EE F 73 [x0] [] = KK F (FF [.celld 2 6 true, .celld 3 6 true] 0) [.code b73] (S0.put 0 (.t x0)) := EE_run (fn := i73) (by kernel_rfl) rfl
theorem R74 (x0 x1 : T) : EE F 74 [x0, x1] [] = KK F (FF [.tmp 4] 0) [.code b74] ((S0.put 0 (.t x0)).put 1 (.t x1)) := EE_run (fn := i74) (by kernel_rfl) rfl
theorem R75 (x0 x1 : T) : EE F 75 [x0, x1] [] = KK F (FF [.tmp 4] 0) [.code b75] ((S0.put 0 (.t x0)).put 1 (.t x1)) := EE_run (fn := i75) (by kernel_rfl) rfl
theorem R76 (x0 x1 : T) : EE F 76 [x0, x1] [] = KK F (FF [.celld 4 6 true, .tmpd 5] 0) [.code b76] ((S0.put 0 (.t x0)).put 1 (.t x1)) := EE_run (fn := i76) (by kernel_rfl) rfl
theorem R88 (x0 : T) : EE F 88 [x0] [] = KK F (FF [.tmp 2] 0) [.code b88] (S0.put 0 (.t x0)) := EE_run (fn := i88) (by kernel_rfl) rfl
theorem R92 (x0 x1 : T) : EE F 92 [x0, x1] [] = KK F (FF [.tmp 4] 0) [.code b92] ((S0.put 0 (.t x0)).put 1 (.t x1)) := EE_run (fn := i92) (by kernel_rfl) rfl
theorem R95 (x0 : T) : EE F 95 [x0] [] = KK F (FF [.tmp 2] 0) [.code b95] (S0.put 0 (.t x0)) := EE_run (fn := i95) (by kernel_rfl) rfl
theorem R100 (x0 x1 : T) : EE F 100 [x0, x1] [] = KK F (FF [.celld 4 2 true] 0) [.code b100] ((S0.put 0 (.t x0)).put 1 (.t x1)) := EE_run (fn := i100) (by kernel_rfl) rfl
theorem R101 (x0 x1 : T) : EE F 101 [x0, x1] [] = KK F (FF [.tmpd 4] 0) [.code b101] ((S0.put 0 (.t x0)).put 1 (.t x1)) := EE_run (fn := i101) (by kernel_rfl) rfl
theorem R102 (x0 : T) : EE F 102 [x0] [] = KK F (FF [.tmp 2] 0) [.code b102] (S0.put 0 (.t x0)) := EE_run (fn := i102) (by kernel_rfl) rfl
theorem R103 (x0 x1 : T) : EE F 103 [x0, x1] [] = KK F (FF [.tmp 4] 0) [.code b103] ((S0.put 0 (.t x0)).put 1 (.t x1)) := EE_run (fn := i103) (by kernel_rfl) rfl
theorem R104 (x0 : T) : EE F 104 [x0] [] = KK F (FF [.tmp 2] 0) [.code b104] (S0.put 0 (.t x0)) := EE_run (fn := i104) (by kernel_rfl) rfl
theorem R105 (x0 : T) : EE F 105 [x0] [] = KK F (FF [.tmp 2] 0) [.code b105] (S0.put 0 (.t x0)) := EE_run (fn := i105) (by kernel_rfl) rfl
theorem R106 (x0 x1 : T) : EE F 106 [x0, x1] [] = KK F (FF [.tmp 4] 0) [.code b106] ((S0.put 0 (.t x0)).put 1 (.t x1)) := EE_run (fn := i106) (by kernel_rfl) rfl
theorem R117 (x0 x1 : T) : EE F 117 [x0, x1] [] = KK F (FF [.tmp 4, .tmp 5] 0) [.code b117] ((S0.put 0 (.t x0)).put 1 (.t x1)) := EE_run (fn := i117) (by kernel_rfl) rfl
theorem R120 (x0 : T) : EE F 120 [x0] [] = KK F (FF [.tmp 2] 0) [.code b120] (S0.put 0 (.t x0)) := EE_run (fn := i120) (by kernel_rfl) rfl
theorem R121 (x0 x1 : T) : EE F 121 [x0, x1] [] = KK F (FF [.tmp 4, .tmp 5] 0) [.code b121] ((S0.put 0 (.t x0)).put 1 (.t x1)) := EE_run (fn := i121) (by kernel_rfl) rfl
theorem R125 (x0 : T) : EE F 125 [x0] [] = KK F (FF [.tmp 2] 0) [.code b125] (S0.put 0 (.t x0)) := EE_run (fn := i125) (by kernel_rfl) rfl
theorem R126 (x0 x1 : T) : EE F 126 [x0, x1] [] = KK F (FF [.tmp 4] 0) [.code b126] ((S0.put 0 (.t x0)).put 1 (.t x1)) := EE_run (fn := i126) (by kernel_rfl) rfl
theorem R133 (x0 x1 : T) : EE F 133 [x0, x1] [] = KK F (FF [.cell 4 2 true, .tmp 5] 0) [.code b133] ((S0.put 0 (.t x0)).put 1 (.t x1)) := EE_run (fn := i133) (by kernel_rfl) rfl
theorem R134 (x0 x1 x2 : T) : EE F 134 [x0, x1, x2] [] = KK F (FF [.tmp 6] 0) [.code b134] (((S0.put 0 (.t x0)).put 1 (.t x1)).put 2 (.t x2)) := EE_run (fn := i134) (by kernel_rfl) rfl
theorem R135 (x0 x1 : T) : EE F 135 [x0, x1] [] = KK F (FF [.cell 4 2 true, .tmp 5] 0) [.code b135] ((S0.put 0 (.t x0)).put 1 (.t x1)) := EE_run (fn := i135) (by kernel_rfl) rfl
theorem R136 (x0 x1 x2 : T) : EE F 136 [x0, x1, x2] [] = KK F (FF [.tmp 6] 0) [.code b136] (((S0.put 0 (.t x0)).put 1 (.t x1)).put 2 (.t x2)) := EE_run (fn := i136) (by kernel_rfl) rfl
theorem R137 (x0 : T) : EE F 137 [x0] [] = KK F (FF [.tmp 2] 0) [.code b137] (S0.put 0 (.t x0)) := EE_run (fn := i137) (by kernel_rfl) rfl
theorem R138 (x0 : T) : EE F 138 [x0] [] = KK F (FF [.tmp 2] 0) [.code b138] (S0.put 0 (.t x0)) := EE_run (fn := i138) (by kernel_rfl) rfl
theorem R139 (x0 : T) : EE F 139 [x0] [] = KK F (FF [.tmp 2] 0) [.code b139] (S0.put 0 (.t x0)) := EE_run (fn := i139) (by kernel_rfl) rfl
theorem R140 (x0 x1 : T) : EE F 140 [x0, x1] [] = KK F (FF [.celld 4 6 true] 0) [.code b140] ((S0.put 0 (.t x0)).put 1 (.t x1)) := EE_run (fn := i140) (by kernel_rfl) rfl
theorem R141 (x0 x1 : T) : EE F 141 [x0, x1] [] = KK F (FF [.tmpd 4] 0) [.code b141] ((S0.put 0 (.t x0)).put 1 (.t x1)) := EE_run (fn := i141) (by kernel_rfl) rfl
theorem R142 (x0 : T) : EE F 142 [x0] [] = KK F (FF [.tmp 2] 0) [.code b142] (S0.put 0 (.t x0)) := EE_run (fn := i142) (by kernel_rfl) rfl
theorem R144 (x0 : T) : EE F 144 [x0] [] = KK F (FF [.tmp 2] 0) [.code b144] (S0.put 0 (.t x0)) := EE_run (fn := i144) (by kernel_rfl) rfl
theorem R145 (x0 x1 : T) : EE F 145 [x0, x1] [] = KK F (FF [.cell 4 2 true, .cell 5 2 true, .tmp 6] 0) [.code b145] ((S0.put 0 (.t x0)).put 1 (.t x1)) := EE_run (fn := i145) (by kernel_rfl) rfl
theorem R146 (x0 x1 : T) : EE F 146 [x0, x1] [] = KK F (FF [.cell 4 6 true] 0) [.code b146] ((S0.put 0 (.t x0)).put 1 (.t x1)) := EE_run (fn := i146) (by kernel_rfl) rfl
theorem R147 (x0 : T) : EE F 147 [x0] [] = KK F (FF [.celld 2 6 true, .celld 3 6 true] 0) [.code b147] (S0.put 0 (.t x0)) := EE_run (fn := i147) (by kernel_rfl) rfl
theorem R148 (x0 x1 : T) : EE F 148 [x0, x1] [] = KK F (FF [.tmp 4, .tmp 5] 0) [.code b148] ((S0.put 0 (.t x0)).put 1 (.t x1)) := EE_run (fn := i148) (by kernel_rfl) rfl
theorem R149 (x0 x1 : T) : EE F 149 [x0, x1] [] = KK F (FF [.tmpd 4] 0) [.code b149] ((S0.put 0 (.t x0)).put 1 (.t x1)) := EE_run (fn := i149) (by kernel_rfl) rfl
theorem R166 (x0 x1 : T) : EE F 166 [x0, x1] [] = KK F (FF [.tmp 4] 0) [.code b166] ((S0.put 0 (.t x0)).put 1 (.t x1)) := EE_run (fn := i166) (by kernel_rfl) rfl
theorem R167 (x0 x1 : T) : EE F 167 [x0, x1] [] = KK F (FF [.tmp 4] 0) [.code b167] ((S0.put 0 (.t x0)).put 1 (.t x1)) := EE_run (fn := i167) (by kernel_rfl) rfl
theorem R169 (x0 x1 x2 : T) : EE F 169 [x0, x1, x2] [] = KK F (FF [.tmp 6, .tmp 7] 0) [.code b169] (((S0.put 0 (.t x0)).put 1 (.t x1)).put 2 (.t x2)) := EE_run (fn := i169) (by kernel_rfl) rfl
theorem R170 (x0 x1 : T) : EE F 170 [x0, x1] [] = KK F (FF [.tmpd 4] 0) [.code b170] ((S0.put 0 (.t x0)).put 1 (.t x1)) := EE_run (fn := i170) (by kernel_rfl) rfl
theorem R171 (x0 : T) : EE F 171 [x0] [] = KK F (FF [.tmp 2] 0) [.code b171] (S0.put 0 (.t x0)) := EE_run (fn := i171) (by kernel_rfl) rfl
theorem R172 (x0 : T) : EE F 172 [x0] [] = KK F (FF [.tmp 2] 0) [.code b172] (S0.put 0 (.t x0)) := EE_run (fn := i172) (by kernel_rfl) rfl
theorem R174 (x0 : T) : EE F 174 [x0] [] = KK F (FF [.tmp 2] 0) [.code b174] (S0.put 0 (.t x0)) := EE_run (fn := i174) (by kernel_rfl) rfl
theorem R175 (x0 x1 : T) : EE F 175 [x0, x1] [] = KK F (FF [.tmp 4] 0) [.code b175] ((S0.put 0 (.t x0)).put 1 (.t x1)) := EE_run (fn := i175) (by kernel_rfl) rfl
theorem R176 (x0 x1 : T) : EE F 176 [x0, x1] [] = KK F (FF [.tmp 4, .tmp 5] 0) [.code b176] ((S0.put 0 (.t x0)).put 1 (.t x1)) := EE_run (fn := i176) (by kernel_rfl) rfl
theorem R178 (x0 : T) : EE F 178 [x0] [] = KK F (FF [.tmp 2] 0) [.code b178] (S0.put 0 (.t x0)) := EE_run (fn := i178) (by kernel_rfl) rfl
theorem R184 (x0 : T) : EE F 184 [x0] [] = KK F (FF [.tmp 2] 0) [.code b184] (S0.put 0 (.t x0)) := EE_run (fn := i184) (by kernel_rfl) rfl
theorem R185 (x0 x1 x2 : T) : EE F 185 [x0, x1, x2] [] = KK F (FF [.tmp 6, .tmp 7] 0) [.code b185] (((S0.put 0 (.t x0)).put 1 (.t x1)).put 2 (.t x2)) := EE_run (fn := i185) (by kernel_rfl) rfl
theorem R186 (x0 x1 : T) : EE F 186 [x0, x1] [] = KK F (FF [.tmp 4] 0) [.code b186] ((S0.put 0 (.t x0)).put 1 (.t x1)) := EE_run (fn := i186) (by kernel_rfl) rfl
theorem R187 (x0 x1 : T) : EE F 187 [x0, x1] [] = KK F (FF [.tmp 4] 0) [.code b187] ((S0.put 0 (.t x0)).put 1 (.t x1)) := EE_run (fn := i187) (by kernel_rfl) rfl
theorem R189 (x0 : T) : EE F 189 [x0] [] = KK F (FF [.tmp 2] 0) [.code b189] (S0.put 0 (.t x0)) := EE_run (fn := i189) (by kernel_rfl) rfl
theorem R190 (x0 x1 : T) : EE F 190 [x0, x1] [] = KK F (FF [.cell 4 2 true, .cell 5 2 true, .tmp 6] 0) [.code b190] ((S0.put 0 (.t x0)).put 1 (.t x1)) := EE_run (fn := i190) (by kernel_rfl) rfl
theorem R195 (x0 : T) : EE F 195 [x0] [] = KK F (FF [.tmp 2] 0) [.code b195] (S0.put 0 (.t x0)) := EE_run (fn := i195) (by kernel_rfl) rfl
theorem R196 (x0 x1 : T) : EE F 196 [x0, x1] [] = KK F (FF [.tmpd 4] 0) [.code b196] ((S0.put 0 (.t x0)).put 1 (.t x1)) := EE_run (fn := i196) (by kernel_rfl) rfl
theorem R197 (x0 : T) : EE F 197 [x0] [] = KK F (FF [.tmp 2] 0) [.code b197] (S0.put 0 (.t x0)) := EE_run (fn := i197) (by kernel_rfl) rfl
theorem R198 (x0 x1 x2 x3 : T) : EE F 198 [x0, x1, x2, x3] [] = KK F (FF [.celld 8 6 true] 0) [.code b198] ((((S0.put 0 (.t x0)).put 1 (.t x1)).put 2 (.t x2)).put 3 (.t x3)) := EE_run (fn := i198) (by kernel_rfl) rfl
theorem R199 (x0 x1 : T) : EE F 199 [x0, x1] [] = KK F (FF [.tmp 4, .tmp 5] 0) [.code b199] ((S0.put 0 (.t x0)).put 1 (.t x1)) := EE_run (fn := i199) (by kernel_rfl) rfl
theorem R207 (x0 : T) : EE F 207 [x0] [] = KK F (FF [.tmp 2] 0) [.code b207] (S0.put 0 (.t x0)) := EE_run (fn := i207) (by kernel_rfl) rfl
theorem R210 (x0 x1 : T) : EE F 210 [x0, x1] [] = KK F (FF [.tmp 4] 0) [.code b210] ((S0.put 0 (.t x0)).put 1 (.t x1)) := EE_run (fn := i210) (by kernel_rfl) rfl
theorem R215 (x0 : T) : EE F 215 [x0] [] = KK F (FF [.tmp 2] 0) [.code b215] (S0.put 0 (.t x0)) := EE_run (fn := i215) (by kernel_rfl) rfl
theorem R216 (x0 x1 : T) : EE F 216 [x0, x1] [] = KK F (FF [.tmp 4, .tmp 5] 0) [.code b216] ((S0.put 0 (.t x0)).put 1 (.t x1)) := EE_run (fn := i216) (by kernel_rfl) rfl
theorem R217 (x0 x1 : T) : EE F 217 [x0, x1] [] = KK F (FF [.celld 4 3 true] 0) [.code b217] ((S0.put 0 (.t x0)).put 1 (.t x1)) := EE_run (fn := i217) (by kernel_rfl) rfl
theorem R218 (x0 x1 : T) : EE F 218 [x0, x1] [] = KK F (FF [.tmp 4, .tmp 5] 0) [.code b218] ((S0.put 0 (.t x0)).put 1 (.t x1)) := EE_run (fn := i218) (by kernel_rfl) rfl
theorem R219 (x0 x1 x2 x3 : T) : EE F 219 [x0, x1, x2, x3] [] = KK F (FF [.tmp 8] 0) [.code b219] ((((S0.put 0 (.t x0)).put 1 (.t x1)).put 2 (.t x2)).put 3 (.t x3)) := EE_run (fn := i219) (by kernel_rfl) rfl
theorem R234 (x0 x1 : T) : EE F 234 [x0, x1] [] = KK F (FF [.tmp 4] 0) [.code b234] ((S0.put 0 (.t x0)).put 1 (.t x1)) := EE_run (fn := i234) (by kernel_rfl) rfl
theorem R235 (x0 x1 x2 : T) : EE F 235 [x0, x1, x2] [] = KK F (FF [.tmp 6, .tmp 7] 0) [.code b235] (((S0.put 0 (.t x0)).put 1 (.t x1)).put 2 (.t x2)) := EE_run (fn := i235) (by kernel_rfl) rfl
theorem R236 (x0 x1 : T) : EE F 236 [x0, x1] [] = KK F (FF [.tmp 4] 0) [.code b236] ((S0.put 0 (.t x0)).put 1 (.t x1)) := EE_run (fn := i236) (by kernel_rfl) rfl
theorem R237 (x0 x1 : T) : EE F 237 [x0, x1] [] = KK F (FF [.tmp 4] 0) [.code b237] ((S0.put 0 (.t x0)).put 1 (.t x1)) := EE_run (fn := i237) (by kernel_rfl) rfl
theorem R246 (x0 x1 : T) : EE F 246 [x0, x1] [] = KK F (FF [.cell 4 3 true] 0) [.code b246] ((S0.put 0 (.t x0)).put 1 (.t x1)) := EE_run (fn := i246) (by kernel_rfl) rfl
theorem R247 (x0 : T) : EE F 247 [x0] [] = KK F (FF [.tmp 2] 0) [.code b247] (S0.put 0 (.t x0)) := EE_run (fn := i247) (by kernel_rfl) rfl
end Go.Proofs.YtdnhamehpdlbgaaV
