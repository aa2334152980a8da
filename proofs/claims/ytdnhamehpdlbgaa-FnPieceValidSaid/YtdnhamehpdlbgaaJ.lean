/- The table of functions, and that each stands for the program's. -/
import Derived.Test.YtdnhamehpdlbgaaV27
import Derived.Test.YtdnhamehpdlbgaaS3
import Derived.Test.YtdnhamehpdlbgaaJ0
import Derived.Test.YtdnhamehpdlbgaaProg
import Derived.KernelRfl
namespace Go.Proofs.YtdnhamehpdlbgaaV
open Go
def tab : List (Nat × IFn) := [(6, i6), (28, i28), (36, i36), (37, i37), (38, i38), (53, i53), (65, i65), (88, i88), (92, i92), (95, i95), (99, i99), (100, i100), (101, i101), (102, i102), (103, i103), (104, i104), (105, i105), (106, i106), (120, i120), (124, i124), (125, i125), (126, i126), (134, i134), (135, i135), (136, i136), (137, i137), (138, i138), (141, i141), (166, i166), (167, i167), (168, i168), (169, i169), (170, i170), (171, i171), (172, i172), (184, i184), (189, i189), (190, i190), (195, i195), (207, i207), (208, i208), (209, i209), (210, i210), (233, i233)]
def F (f : Nat) : Option IFn := tab.lookup f
theorem tab_ok : tab.all (fun q => funOk drawOk Try.prog q.1 q.2) = true := by kernel_rfl
theorem lookup_all {l : List (Nat × IFn)} {p : Nat → IFn → Prop} (h : ∀ q, q ∈ l → p q.1 q.2) {f : Nat} {i : IFn} (hf : l.lookup f = some i) : p f i := by
  induction l with
  | nil => simp at hf
  | cons q l ih =>
    obtain ⟨g, j⟩ := q
    simp only [List.lookup_cons] at hf
    split at hf
    · rename_i he
      simp only [beq_iff_eq] at he
      cases hf
      subst he
      exact h (f, i) (List.mem_cons_self ..)
    · exact ih (fun q hq => h q (List.mem_cons_of_mem _ hq)) hf
theorem hF (f : Nat) (i : IFn) (hf : F f = some i) : funOk drawOk Try.prog f i = true :=
  lookup_all (p := fun f i => funOk drawOk Try.prog f i = true) (fun q hq => List.all_eq_true.1 tab_ok q hq) hf
theorem all_calls : CallSpec Try.prog (EE F) := eval_calls (draw_sound (by kernel_rfl)) hF
theorem R6 (x0 : T) : EE F 6 [x0] [] = KK F (FF [.tmp 2] 0) [.code b6] (S0.put 0 (.t x0)) := EE_run (fn := i6) (by kernel_rfl) rfl
theorem R28 : EE F 28 [] [] = KK F (FF [.tmp 0] 0) [.code b28] S0 := EE_run (fn := i28) (by kernel_rfl) rfl
theorem R36 (x0 : T) : EE F 36 [x0] [] = KK F (FF [.celld 2 3 true] 0) [.code b36] (S0.put 0 (.t x0)) := EE_run (fn := i36) (by kernel_rfl) rfl
theorem R37 (x0 : T) : EE F 37 [x0] [] = KK F (FF [.tmp 2] 0) [.code b37] (S0.put 0 (.t x0)) := EE_run (fn := i37) (by kernel_rfl) rfl
theorem R38 (x0 : T) : EE F 38 [x0] [] = KK F (FF [.tmp 2] 0) [.code b38] (S0.put 0 (.t x0)) := EE_run (fn := i38) (by kernel_rfl) rfl
theorem R53 (x0 x1 : T) : EE F 53 [x0, x1] [] = KK F (FF [.cell 4 3 true, .tmp 5] 0) [.code b53] ((S0.put 0 (.t x0)).put 1 (.t x1)) := EE_run (fn := i53) (by kernel_rfl) rfl
theorem R65 (x0 : T) : EE F 65 [x0] [] = KK F (FF [.tmp 2] 0) [.code b65] (S0.put 0 (.t x0)) := EE_run (fn := i65) (by kernel_rfl) rfl
theorem R88 (x0 : T) : EE F 88 [x0] [] = KK F (FF [.tmp 2] 0) [.code b88] (S0.put 0 (.t x0)) := EE_run (fn := i88) (by kernel_rfl) rfl
theorem R92 (x0 x1 : T) : EE F 92 [x0, x1] [] = KK F (FF [.tmp 4] 0) [.code b92] ((S0.put 0 (.t x0)).put 1 (.t x1)) := EE_run (fn := i92) (by kernel_rfl) rfl
theorem R95 (x0 : T) : EE F 95 [x0] [] = KK F (FF [.tmp 2] 0) [.code b95] (S0.put 0 (.t x0)) := EE_run (fn := i95) (by kernel_rfl) rfl
theorem R99 (x0 x1 : T) : EE F 99 [x0, x1] [] = KK F (FF [.tmpd 4, .celld 5 2 true] 0) [.code b99] ((S0.put 0 (.t x0)).put 1 (.t x1)) := EE_run (fn := i99) (by kernel_rfl) rfl
theorem R100 (x0 x1 : T) : EE F 100 [x0, x1] [] = KK F (FF [.celld 4 2 true] 0) [.code b100] ((S0.put 0 (.t x0)).put 1 (.t x1)) := EE_run (fn := i100) (by kernel_rfl) rfl
theorem R101 (x0 x1 : T) : EE F 101 [x0, x1] [] = KK F (FF [.tmpd 4] 0) [.code b101] ((S0.put 0 (.t x0)).put 1 (.t x1)) := EE_run (fn := i101) (by kernel_rfl) rfl
theorem R102 (x0 : T) : EE F 102 [x0] [] = KK F (FF [.tmp 2] 0) [.code b102] (S0.put 0 (.t x0)) := EE_run (fn := i102) (by kernel_rfl) rfl
theorem R103 (x0 x1 : T) : EE F 103 [x0, x1] [] = KK F (FF [.tmp 4] 0) [.code b103] ((S0.put 0 (.t x0)).put 1 (.t x1)) := EE_run (fn := i103) (by kernel_rfl) rfl
theorem R104 (x0 : T) : EE F 104 [x0] [] = KK F (FF [.tmp 2] 0) [.code b104] (S0.put 0 (.t x0)) := EE_run (fn := i104) (by kernel_rfl) rfl
theorem R105 (x0 : T) : EE F 105 [x0] [] = KK F (FF [.tmp 2] 0) [.code b105] (S0.put 0 (.t x0)) := EE_run (fn := i105) (by kernel_rfl) rfl
theorem R106 (x0 x1 : T) : EE F 106 [x0, x1] [] = KK F (FF [.tmp 4] 0) [.code b106] ((S0.put 0 (.t x0)).put 1 (.t x1)) := EE_run (fn := i106) (by kernel_rfl) rfl
theorem R120 (x0 : T) : EE F 120 [x0] [] = KK F (FF [.tmp 2] 0) [.code b120] (S0.put 0 (.t x0)) := EE_run (fn := i120) (by kernel_rfl) rfl
theorem R124 (x0 x1 : T) : EE F 124 [x0, x1] [] = KK F (FF [.cell 4 2 true, .tmp 5] 0) [.code b124] ((S0.put 0 (.t x0)).put 1 (.t x1)) := EE_run (fn := i124) (by kernel_rfl) rfl
theorem R125 (x0 : T) : EE F 125 [x0] [] = KK F (FF [.tmp 2] 0) [.code b125] (S0.put 0 (.t x0)) := EE_run (fn := i125) (by kernel_rfl) rfl
theorem R126 (x0 x1 : T) : EE F 126 [x0, x1] [] = KK F (FF [.tmp 4] 0) [.code b126] ((S0.put 0 (.t x0)).put 1 (.t x1)) := EE_run (fn := i126) (by kernel_rfl) rfl
theorem R134 (x0 x1 x2 : T) : EE F 134 [x0, x1, x2] [] = KK F (FF [.tmp 6] 0) [.code b134] (((S0.put 0 (.t x0)).put 1 (.t x1)).put 2 (.t x2)) := EE_run (fn := i134) (by kernel_rfl) rfl
theorem R135 (x0 x1 : T) : EE F 135 [x0, x1] [] = KK F (FF [.cell 4 2 true, .tmp 5] 0) [.code b135] ((S0.put 0 (.t x0)).put 1 (.t x1)) := EE_run (fn := i135) (by kernel_rfl) rfl
theorem R136 (x0 x1 x2 : T) : EE F 136 [x0, x1, x2] [] = KK F (FF [.tmp 6] 0) [.code b136] (((S0.put 0 (.t x0)).put 1 (.t x1)).put 2 (.t x2)) := EE_run (fn := i136) (by kernel_rfl) rfl
theorem R137 (x0 : T) : EE F 137 [x0] [] = KK F (FF [.tmp 2] 0) [.code b137] (S0.put 0 (.t x0)) := EE_run (fn := i137) (by kernel_rfl) rfl
theorem R138 (x0 : T) : EE F 138 [x0] [] = KK F (FF [.tmp 2] 0) [.code b138] (S0.put 0 (.t x0)) := EE_run (fn := i138) (by kernel_rfl) rfl
theorem R141 (x0 x1 : T) : EE F 141 [x0, x1] [] = KK F (FF [.tmpd 4] 0) [.code b141] ((S0.put 0 (.t x0)).put 1 (.t x1)) := EE_run (fn := i141) (by kernel_rfl) rfl
theorem R166 (x0 x1 : T) : EE F 166 [x0, x1] [] = KK F (FF [.tmp 4] 0) [.code b166] ((S0.put 0 (.t x0)).put 1 (.t x1)) := EE_run (fn := i166) (by kernel_rfl) rfl
theorem R167 (x0 x1 : T) : EE F 167 [x0, x1] [] = KK F (FF [.tmp 4] 0) [.code b167] ((S0.put 0 (.t x0)).put 1 (.t x1)) := EE_run (fn := i167) (by kernel_rfl) rfl
theorem R168 (x0 x1 : T) : EE F 168 [x0, x1] [] = KK F (FF [.tmpd 4] 0) [.code b168] ((S0.put 0 (.t x0)).put 1 (.t x1)) := EE_run (fn := i168) (by kernel_rfl) rfl
theorem R169 (x0 x1 x2 : T) : EE F 169 [x0, x1, x2] [] = KK F (FF [.tmp 6, .tmp 7] 0) [.code b169] (((S0.put 0 (.t x0)).put 1 (.t x1)).put 2 (.t x2)) := EE_run (fn := i169) (by kernel_rfl) rfl
theorem R170 (x0 x1 : T) : EE F 170 [x0, x1] [] = KK F (FF [.tmpd 4] 0) [.code b170] ((S0.put 0 (.t x0)).put 1 (.t x1)) := EE_run (fn := i170) (by kernel_rfl) rfl
theorem R171 (x0 : T) : EE F 171 [x0] [] = KK F (FF [.tmp 2] 0) [.code b171] (S0.put 0 (.t x0)) := EE_run (fn := i171) (by kernel_rfl) rfl
theorem R172 (x0 : T) : EE F 172 [x0] [] = KK F (FF [.tmp 2] 0) [.code b172] (S0.put 0 (.t x0)) := EE_run (fn := i172) (by kernel_rfl) rfl
theorem R184 (x0 : T) : EE F 184 [x0] [] = KK F (FF [.tmp 2] 0) [.code b184] (S0.put 0 (.t x0)) := EE_run (fn := i184) (by kernel_rfl) rfl
theorem R189 (x0 : T) : EE F 189 [x0] [] = KK F (FF [.tmp 2] 0) [.code b189] (S0.put 0 (.t x0)) := EE_run (fn := i189) (by kernel_rfl) rfl
theorem R190 (x0 x1 : T) : EE F 190 [x0, x1] [] = KK F (FF [.cell 4 2 true, .cell 5 2 true, .tmp 6] 0) [.code b190] ((S0.put 0 (.t x0)).put 1 (.t x1)) := EE_run (fn := i190) (by kernel_rfl) rfl
theorem R195 (x0 : T) : EE F 195 [x0] [] = KK F (FF [.tmp 2] 0) [.code b195] (S0.put 0 (.t x0)) := EE_run (fn := i195) (by kernel_rfl) rfl
theorem R207 (x0 : T) : EE F 207 [x0] [] = KK F (FF [.tmp 2] 0) [.code b207] (S0.put 0 (.t x0)) := EE_run (fn := i207) (by kernel_rfl) rfl
theorem R208 (x0 : T) : EE F 208 [x0] [] = KK F (FF [.tmp 2, .tmp 3] 0) [.code b208] (S0.put 0 (.t x0)) := EE_run (fn := i208) (by kernel_rfl) rfl
theorem R209 (x0 x1 : T) : EE F 209 [x0, x1] [] = KK F (FF [.tmpd 4] 0) [.code b209] ((S0.put 0 (.t x0)).put 1 (.t x1)) := EE_run (fn := i209) (by kernel_rfl) rfl
theorem R210 (x0 x1 : T) : EE F 210 [x0, x1] [] = KK F (FF [.tmp 4] 0) [.code b210] ((S0.put 0 (.t x0)).put 1 (.t x1)) := EE_run (fn := i210) (by kernel_rfl) rfl
theorem R233 (x0 : T) : EE F 233 [x0] [] = KK F (FF [.tmp 2] 0) [.code b233] (S0.put 0 (.t x0)) := EE_run (fn := i233) (by kernel_rfl) rfl
end Go.Proofs.YtdnhamehpdlbgaaV
