/- The table of functions, and that each stands for the program's. -/
import Derived.Test.YtdnhamehpdlbgaaV27
import Derived.Test.YtdnhamehpdlbgaaS3
import Derived.Test.YtdnhamehpdlbgaaJ0
import Derived.Test.YtdnhamehpdlbgaaProg
import Derived.KernelRfl
namespace Go.Proofs.YtdnhamehpdlbgaaV
open Go
def tab : List (Nat × IFn) := [(3, i3), (15, i15), (16, i16), (17, i17), (18, i18), (19, i19), (20, i20), (21, i21), (22, i22), (23, i23), (24, i24), (33, i33), (80, i80), (81, i81), (82, i82), (83, i83), (84, i84), (85, i85), (86, i86), (87, i87), (94, i94), (96, i96), (98, i98), (134, i134), (161, i161), (162, i162), (163, i163)]
def F (f : Nat) : Option IFn := tab.lookup f
theorem tab_ok : tab.all (fun q => funOk drawOk Try.prog q.1 q.2) = true := by kernel_rfl
theorem lookup_all {l : List (Nat × IFn)} {p : Nat → IFn → Prop} (h : ∀ q, q ∈ l → p q.1 q.2) {f : Nat} {i : IFn} (hf : l.lookup f = some i) : p f i := by
  induction l with
  | nil => simp at hf
  | cons q l ih =>
    obtain ⟨g, j⟩ := q
    simp only [List.lookup_cons] at hf
    split at hf
    · rename_i he
      simp only [beq_iff_eq] at he
      cases hf
      subst he
      exact h (f, i) (List.mem_cons_self ..)
    · exact ih (fun q hq => h q (List.mem_cons_of_mem _ hq)) hf
theorem hF (f : Nat) (i : IFn) (hf : F f = some i) : funOk drawOk Try.prog f i = true :=
  lookup_all (p := fun f i => funOk drawOk Try.prog f i = true) (fun q hq => List.all_eq_true.1 tab_ok q hq) hf
theorem all_calls : CallSpec Try.prog (EE F) := eval_calls (draw_sound (by kernel_rfl)) hF
theorem R3 (x0 x1 : T) : EE F 3 [x0, x1] [] = KK F (FF [.tmp 4] 0) [.code b3] ((S0.put 0 (.t x0)).put 1 (.t x1)) := EE_run (fn := i3) (by kernel_rfl) rfl
theorem R15 (x0 x1 : T) : EE F 15 [x0, x1] [] = KK F (FF [.tmp 4] 0) [.code b15] ((S0.put 0 (.t x0)).put 1 (.t x1)) := EE_run (fn := i15) (by kernel_rfl) rfl
theorem R16 (x0 x1 : T) : EE F 16 [x0, x1] [] = KK F (FF [.cell 4 3 true] 0) [.code b16] ((S0.put 0 (.t x0)).put 1 (.t x1)) := EE_run (fn := i16) (by kernel_rfl) rfl
theorem R17 (x0 : T) : EE F 17 [x0] [] = KK F (FF [.cell 2 3 true] 0) [.code b17] (S0.put 0 (.t x0)) := EE_run (fn := i17) (by kernel_rfl) rfl
theorem R18 (x0 : T) : EE F 18 [x0] [] = KK F (FF [.tmp 2] 0) [.code b18] (S0.put 0 (.t x0)) := EE_run (fn := i18) (by kernel_rfl) rfl
theorem R19 (x0 x1 : T) : EE F 19 [x0, x1] [] = KK F (FF [.cell 4 3 true] 0) [.code b19] ((S0.put 0 (.t x0)).put 1 (.t x1)) := EE_run (fn := i19) (by kernel_rfl) rfl
theorem R20 (x0 x1 : T) : EE F 20 [x0, x1] [] = KK F (FF [.tmp 4] 0) [.code b20] ((S0.put 0 (.t x0)).put 1 (.t x1)) := EE_run (fn := i20) (by kernel_rfl) rfl
theorem R21 (x0 x1 : T) : EE F 21 [x0, x1] [] = KK F (FF [.tmp 4] 0) [.code b21] ((S0.put 0 (.t x0)).put 1 (.t x1)) := EE_run (fn := i21) (by kernel_rfl) rfl
theorem R22 (x0 x1 : T) : EE F 22 [x0, x1] [] = KK F (FF [.tmp 4] 0) [.code b22] ((S0.put 0 (.t x0)).put 1 (.t x1)) := EE_run (fn := i22) (by kernel_rfl) rfl
theorem R23 (x0 x1 : T) : EE F 23 [x0, x1] [] = KK F (FF [.tmp 4] 0) [.code b23] ((S0.put 0 (.t x0)).put 1 (.t x1)) := EE_run (fn := i23) (by kernel_rfl) rfl
theorem R24 (x0 x1 : T) : EE F 24 [x0, x1] [] = KK F (FF [.tmp 4] 0) [.code b24] ((S0.put 0 (.t x0)).put 1 (.t x1)) := EE_run (fn := i24) (by kernel_rfl) rfl
theorem R33 (x0 : T) : EE F 33 [x0] [] = KK F (FF [.tmp 2] 0) [.code b33] (S0.put 0 (.t x0)) := EE_run (fn := i33) (by kernel_rfl) rfl
theorem R80 (x0 x1 : T) : EE F 80 [x0, x1] [] = KK F (FF [.tmp 4] 0) [.code b80] ((S0.put 0 (.t x0)).put 1 (.t x1)) := EE_run (fn := i80) (by kernel_rfl) rfl
theorem R81 (x0 : T) : EE F 81 [x0] [] = KK F (FF [.tmp 2] 0) [.code b81] (S0.put 0 (.t x0)) := EE_run (fn := i81) (by kernel_rfl) rfl
theorem R82 (x0 : T) : EE F 82 [x0] [] = KK F (FF [.cell 2 3 true] 0) [.code b82] (S0.put 0 (.t x0)) := EE_run (fn := i82) (by kernel_rfl) rfl
theorem R83 (x0 x1 : T) : EE F 83 [x0, x1] [] = KK F (FF [.cell 4 3 true, .tmp 5] 0) [.code b83] ((S0.put 0 (.t x0)).put 1 (.t x1)) := EE_run (fn := i83) (by kernel_rfl) rfl
theorem R84 (x0 : T) : EE F 84 [x0] [] = KK F (FF [.cell 2 3 true] 0) [.code b84] (S0.put 0 (.t x0)) := EE_run (fn := i84) (by kernel_rfl) rfl
theorem R85 (x0 x1 : T) : EE F 85 [x0, x1] [] = KK F (FF [.tmp 4] 0) [.code b85] ((S0.put 0 (.t x0)).put 1 (.t x1)) := EE_run (fn := i85) (by kernel_rfl) rfl
theorem R86 (x0 x1 : T) : EE F 86 [x0, x1] [] = KK F (FF [.cell 4 3 true, .tmp 5] 0) [.code b86] ((S0.put 0 (.t x0)).put 1 (.t x1)) := EE_run (fn := i86) (by kernel_rfl) rfl
theorem R87 (x0 x1 : T) : EE F 87 [x0, x1] [] = KK F (FF [.tmp 4] 0) [.code b87] ((S0.put 0 (.t x0)).put 1 (.t x1)) := EE_run (fn := i87) (by kernel_rfl) rfl
theorem R94 (x0 x1 : T) : EE F 94 [x0, x1] [] = KK F (FF [.tmp 4] 0) [.code b94] ((S0.put 0 (.t x0)).put 1 (.t x1)) := EE_run (fn := i94) (by kernel_rfl) rfl
theorem R96 (x0 : T) : EE F 96 [x0] [] = KK F (FF [.tmp 2] 0) [.code b96] (S0.put 0 (.t x0)) := EE_run (fn := i96) (by kernel_rfl) rfl
theorem R98 (x0 : T) : EE F 98 [x0] [] = KK F (FF [.tmp 2] 0) [.code b98] (S0.put 0 (.t x0)) := EE_run (fn := i98) (by kernel_rfl) rfl
theorem R134 (x0 x1 x2 : T) : EE F 134 [x0, x1, x2] [] = KK F (FF [.tmp 6] 0) [.code b134] (((S0.put 0 (.t x0)).put 1 (.t x1)).put 2 (.t x2)) := EE_run (fn := i134) (by kernel_rfl) rfl
theorem R161 (x0 : T) : EE F 161 [x0] [] = KK F (FF [.tmp 2] 0) [.code b161] (S0.put 0 (.t x0)) := EE_run (fn := i161) (by kernel_rfl) rfl
theorem R162 (x0 x1 : T) : EE F 162 [x0, x1] [] = KK F (FF [.tmp 4] 0) [.code b162] ((S0.put 0 (.t x0)).put 1 (.t x1)) := EE_run (fn := i162) (by kernel_rfl) rfl
theorem R163 (x0 x1 x2 x3 : T) : EE F 163 [x0, x1, x2, x3] [] = KK F (FF [.tmp 8] 0) [.code b163] ((((S0.put 0 (.t x0)).put 1 (.t x1)).put 2 (.t x2)).put 3 (.t x3)) := EE_run (fn := i163) (by kernel_rfl) rfl
end Go.Proofs.YtdnhamehpdlbgaaV
