/- The table of functions, and that each stands for the program's. -/
import Derived.Test.YtdnhamehpdlbgaaV27
import Derived.Test.YtdnhamehpdlbgaaS3
import Derived.Test.YtdnhamehpdlbgaaJ0
import Derived.Test.YtdnhamehpdlbgaaProg
import Derived.KernelRfl
namespace Go.Proofs.YtdnhamehpdlbgaaV
open Go
def tab : List (Nat × IFn) := [(5, i5), (16, i16), (19, i19), (28, i28), (29, i29), (31, i31), (32, i32), (33, i33), (34, i34), (35, i35), (81, i81), (82, i82), (83, i83), (84, i84), (85, i85), (86, i86), (88, i88), (91, i91), (92, i92), (94, i94), (95, i95), (96, i96), (97, i97), (98, i98), (134, i134), (137, i137), (161, i161), (162, i162), (163, i163), (164, i164), (165, i165), (166, i166), (167, i167), (195, i195), (207, i207)]
def F (f : Nat) : Option IFn := tab.lookup f
theorem tab_ok : tab.all (fun q => funOk drawOk Try.prog q.1 q.2) = true := by kernel_rfl
theorem lookup_all {l : List (Nat × IFn)} {p : Nat → IFn → Prop} (h : ∀ q, q ∈ l → p q.1 q.2) {f : Nat} {i : IFn} (hf : l.lookup f = some i) : p f i := by
  induction l with
  | nil => simp at hf
  | cons q l ih =>
    obtain ⟨g, j⟩ := q
    simp only [List.lookup_cons] at hf
    split at hf
    · rename_i he
      simp only [beq_iff_eq] at he
      cases hf
      subst he
      exact h (f, i) (List.mem_cons_self ..)
    · exact ih (fun q hq => h q (List.mem_cons_of_mem _ hq)) hf
theorem hF (f : Nat) (i : IFn) (hf : F f = some i) : funOk drawOk Try.prog f i = true :=
  lookup_all (p := fun f i => funOk drawOk Try.prog f i = true) (fun q hq => List.all_eq_true.1 tab_ok q hq) hf
theorem all_calls : CallSpec Try.prog (EE F) := eval_calls (draw_sound (by kernel_rfl)) hF
theorem R5 (x0 : T) : EE F 5 [x0] [] = KK F (FF [.tmp 2] 0) [.code b5] (S0.put 0 (.t x0)) := EE_run (fn := i5) (by kernel_rfl) rfl
theorem R16 (x0 x1 : T) : EE F 16 [x0, x1] [] = KK F (FF [.cell 4 3 true] 0) [.code b16] ((S0.put 0 (.t x0)).put 1 (.t x1)) := EE_run (fn := i16) (by kernel_rfl) rfl
theorem R19 (x0 x1 : T) : EE F 19 [x0, x1] [] = KK F (FF [.cell 4 3 true] 0) [.code b19] ((S0.put 0 (.t x0)).put 1 (.t x1)) := EE_run (fn := i19) (by kernel_rfl) rfl
theorem R28 : EE F 28 [] [] = KK F (FF [.tmp 0] 0) [.code b28] S0 := EE_run (fn := i28) (by kernel_rfl) rfl
theorem R29 (x0 x1 : T) : EE F 29 [x0, x1] [] = KK F (FF [.tmp 4] 0) [.code b29] ((S0.put 0 (.t x0)).put 1 (.t x1)) := EE_run (fn := i29) (by kernel_rfl) rfl
theorem R31 (x0 : T) : EE F 31 [x0] [] = KK F (FF [.celld 2 3 true, .tmpd 3] 0) [.code b31] (S0.put 0 (.t x0)) := EE_run (fn := i31) (by kernel_rfl) rfl
theorem R32 (x0 x1 : T) : EE F 32 [x0, x1] [] = KK F (FF [.tmp 4] 0) [.code b32] ((S0.put 0 (.t x0)).put 1 (.t x1)) := EE_run (fn := i32) (by kernel_rfl) rfl
theorem R33 (x0 : T) : EE F 33 [x0] [] = KK F (FF [.tmp 2] 0) [.code b33] (S0.put 0 (.t x0)) := EE_run (fn := i33) (by kernel_rfl) rfl
theorem R34 (x0 : T) : EE F 34 [x0] [] = KK F (FF [.tmp 2] 0) [.code b34] (S0.put 0 (.t x0)) := EE_run (fn := i34) (by kernel_rfl) rfl
theorem R35 (x0 x1 : T) : EE F 35 [x0, x1] [] = KK F (FF [.tmp 4] 0) [.code b35] ((S0.put 0 (.t x0)).put 1 (.t x1)) := EE_run (fn := i35) (by kernel_rfl) rfl
theorem R81 (x0 : T) : EE F 81 [x0] [] = KK F (FF [.tmp 2] 0) [.code b81] (S0.put 0 (.t x0)) := EE_run (fn := i81) (by kernel_rfl) rfl
theorem R82 (x0 : T) : EE F 82 [x0] [] = KK F (FF [.cell 2 3 true] 0) [.code b82] (S0.put 0 (.t x0)) := EE_run (fn := i82) (by kernel_rfl) rfl
theorem R83 (x0 x1 : T) : EE F 83 [x0, x1] [] = KK F (FF [.cell 4 3 true, .tmp 5] 0) [.code b83] ((S0.put 0 (.t x0)).put 1 (.t x1)) := EE_run (fn := i83) (by kernel_rfl) rfl
theorem R84 (x0 : T) : EE F 84 [x0] [] = KK F (FF [.cell 2 3 true] 0) [.code b84] (S0.put 0 (.t x0)) := EE_run (fn := i84) (by kernel_rfl) rfl
theorem R85 (x0 x1 : T) : EE F 85 [x0, x1] [] = KK F (FF [.tmp 4] 0) [.code b85] ((S0.put 0 (.t x0)).put 1 (.t x1)) := EE_run (fn := i85) (by kernel_rfl) rfl
theorem R86 (x0 x1 : T) : EE F 86 [x0, x1] [] = KK F (FF [.cell 4 3 true, .tmp 5] 0) [.code b86] ((S0.put 0 (.t x0)).put 1 (.t x1)) := EE_run (fn := i86) (by kernel_rfl) rfl
theorem R88 (x0 : T) : EE F 88 [x0] [] = KK F (FF [.tmp 2] 0) [.code b88] (S0.put 0 (.t x0)) := EE_run (fn := i88) (by kernel_rfl) rfl
theorem R91 (x0 x1 : T) : EE F 91 [x0, x1] [] = KK F (FF [.celld 4 3 true] 0) [.code b91] ((S0.put 0 (.t x0)).put 1 (.t x1)) := EE_run (fn := i91) (by kernel_rfl) rfl
theorem R92 (x0 x1 : T) : EE F 92 [x0, x1] [] = KK F (FF [.tmp 4] 0) [.code b92] ((S0.put 0 (.t x0)).put 1 (.t x1)) := EE_run (fn := i92) (by kernel_rfl) rfl
theorem R94 (x0 x1 : T) : EE F 94 [x0, x1] [] = KK F (FF [.tmp 4] 0) [.code b94] ((S0.put 0 (.t x0)).put 1 (.t x1)) := EE_run (fn := i94) (by kernel_rfl) rfl
theorem R95 (x0 : T) : EE F 95 [x0] [] = KK F (FF [.tmp 2] 0) [.code b95] (S0.put 0 (.t x0)) := EE_run (fn := i95) (by kernel_rfl) rfl
theorem R96 (x0 : T) : EE F 96 [x0] [] = KK F (FF [.tmp 2] 0) [.code b96] (S0.put 0 (.t x0)) := EE_run (fn := i96) (by kernel_rfl) rfl
theorem R97 (x0 x1 : T) : EE F 97 [x0, x1] [] = KK F (FF [.tmpd 4] 0) [.code b97] ((S0.put 0 (.t x0)).put 1 (.t x1)) := EE_run (fn := i97) (by kernel_rfl) rfl
theorem R98 (x0 : T) : EE F 98 [x0] [] = KK F (FF [.tmp 2] 0) [.code b98] (S0.put 0 (.t x0)) := EE_run (fn := i98) (by kernel_rfl) rfl
theorem R134 (x0 x1 x2 : T) : EE F 134 [x0, x1, x2] [] = KK F (FF [.tmp 6] 0) [.code b134] (((S0.put 0 (.t x0)).put 1 (.t x1)).put 2 (.t x2)) := EE_run (fn := i134) (by kernel_rfl) rfl
theorem R137 (x0 : T) : EE F 137 [x0] [] = KK F (FF [.tmp 2] 0) [.code b137] (S0.put 0 (.t x0)) := EE_run (fn := i137) (by kernel_rfl) rfl
theorem R161 (x0 : T) : EE F 161 [x0] [] = KK F (FF [.tmp 2] 0) [.code b161] (S0.put 0 (.t x0)) := EE_run (fn := i161) (by kernel_rfl) rfl
theorem R162 (x0 x1 : T) : EE F 162 [x0, x1] [] = KK F (FF [.tmp 4] 0) [.code b162] ((S0.put 0 (.t x0)).put 1 (.t x1)) := EE_run (fn := i162) (by kernel_rfl) rfl
theorem R163 (x0 x1 x2 x3 : T) : EE F 163 [x0, x1, x2, x3] [] = KK F (FF [.tmp 8] 0) [.code b163] ((((S0.put 0 (.t x0)).put 1 (.t x1)).put 2 (.t x2)).put 3 (.t x3)) := EE_run (fn := i163) (by kernel_rfl) rfl
theorem R164 (x0 x1 : T) : EE F 164 [x0, x1] [] = KK F (FF [.cell 4 3 true, .tmp 5] 0) [.code b164] ((S0.put 0 (.t x0)).put 1 (.t x1)) := EE_run (fn := i164) (by kernel_rfl) rfl
theorem R165 (x0 : T) : EE F 165 [x0] [] = KK F (FF [.cell 2 3 true] 0) [.code b165] (S0.put 0 (.t x0)) := EE_run (fn := i165) (by kernel_rfl) rfl
theorem R166 (x0 x1 : T) : EE F 166 [x0, x1] [] = KK F (FF [.tmp 4] 0) [.code b166] ((S0.put 0 (.t x0)).put 1 (.t x1)) := EE_run (fn := i166) (by kernel_rfl) rfl
theorem R167 (x0 x1 : T) : EE F 167 [x0, x1] [] = KK F (FF [.tmp 4] 0) [.code b167] ((S0.put 0 (.t x0)).put 1 (.t x1)) := EE_run (fn := i167) (by kernel_rfl) rfl
theorem R195 (x0 : T) : EE F 195 [x0] [] = KK F (FF [.tmp 2] 0) [.code b195] (S0.put 0 (.t x0)) := EE_run (fn := i195) (by kernel_rfl) rfl
theorem R207 (x0 : T) : EE F 207 [x0] [] = KK F (FF [.tmp 2] 0) [.code b207] (S0.put 0 (.t x0)) := EE_run (fn := i207) (by kernel_rfl) rfl
end Go.Proofs.YtdnhamehpdlbgaaV
