/- The table of functions, and that each stands for the program's. -/
import Derived.Test.YtdnhamehpdlbgaaV27
import Derived.Test.YtdnhamehpdlbgaaS3
import Derived.Test.YtdnhamehpdlbgaaJ0
import Derived.Test.YtdnhamehpdlbgaaProg
import Derived.KernelRfl
namespace Go.Proofs.YtdnhamehpdlbgaaV
open Go
def tab : List (Nat × IFn) := [(9, i9), (43, i43), (46, i46), (47, i47), (51, i51), (52, i52), (53, i53), (54, i54), (55, i55), (56, i56), (57, i57), (58, i58), (59, i59), (60, i60), (61, i61), (65, i65), (66, i66), (71, i71), (102, i102), (103, i103), (104, i104), (105, i105), (106, i106), (113, i113), (115, i115), (121, i121), (122, i122), (123, i123), (124, i124), (125, i125), (126, i126), (127, i127), (128, i128), (129, i129), (130, i130), (131, i131), (132, i132), (134, i134), (136, i136), (137, i137), (138, i138), (139, i139), (144, i144), (145, i145), (171, i171), (172, i172), (178, i178), (185, i185), (186, i186), (187, i187), (188, i188), (189, i189), (190, i190), (191, i191), (192, i192), (193, i193), (194, i194), (195, i195), (215, i215)]
def F (f : Nat) : Option IFn := tab.lookup f
theorem tab_ok : tab.all (fun q => funOk drawOk Try.prog q.1 q.2) = true := by kernel_rfl
theorem lookup_all {l : List (Nat × IFn)} {p : Nat → IFn → Prop} (h : ∀ q, q ∈ l → p q.1 q.2) {f : Nat} {i : IFn} (hf : l.lookup f = some i) : p f i := by
  induction l with
  | nil => simp at hf
  | cons q l ih =>
    obtain ⟨g, j⟩ := q
    simp only [List.lookup_cons] at hf
    split at hf
    · rename_i he
      simp only [beq_iff_eq] at he
      cases hf
      subst he
      exact h (f, i) (List.mem_cons_self ..)
    · exact ih (fun q hq => h q (List.mem_cons_of_mem _ hq)) hf
theorem hF (f : Nat) (i : IFn) (hf : F f = some i) : funOk drawOk Try.prog f i = true :=
  lookup_all (p := fun f i => funOk drawOk Try.prog f i = true) (fun q hq => List.all_eq_true.1 tab_ok q hq) hf
theorem all_calls : CallSpec Try.prog (EE F) := eval_calls (draw_sound (by kernel_rfl)) hF
theorem R9 (x0 x1 : T) : EE F 9 [x0, x1] [] = KK F (FF [.tmp 4] 0) [.code b9] ((S0.put 0 (.t x0)).put 1 (.t x1)) := EE_run (fn := i9) (by kernel_rfl) rfl
theorem R43 (x0 x1 : T) : EE F 43 [x0, x1] [] = KK F (FF [.tmp 4] 0) [.code b43] ((S0.put 0 (.t x0)).put 1 (.t x1)) := EE_run (fn := i43) (by kernel_rfl) rfl
theorem R46 (x0 x1 : T) : EE F 46 [x0, x1] [] = KK F (FF [.tmp 4] 0) [.code b46] ((S0.put 0 (.t x0)).put 1 (.t x1)) := EE_run (fn := i46) (by kernel_rfl) rfl
theorem R47 (x0 x1 : T) : EE F 47 [x0, x1] [] = KK F (FF [.tmp 4] 0) [.code b47] ((S0.put 0 (.t x0)).put 1 (.t x1)) := EE_run (fn := i47) (by kernel_rfl) rfl
theorem R51 (x0 x1 : T) : EE F 51 [x0, x1] [] = KK F (FF [.tmp 4] 0) [.code b51] ((S0.put 0 (.t x0)).put 1 (.t x1)) := EE_run (fn := i51) (by kernel_rfl) rfl
theorem R52 (x0 x1 : T) : EE F 52 [x0, x1] [] = KK F (FF [.tmp 4] 0) [.code b52] ((S0.put 0 (.t x0)).put 1 (.t x1)) := EE_run (fn := i52) (by kernel_rfl) rfl
theorem R53 (x0 x1 : T) : EE F 53 [x0, x1] [] = KK F (FF [.cell 4 3 true, .tmp 5] 0) [.code b53] ((S0.put 0 (.t x0)).put 1 (.t x1)) := EE_run (fn := i53) (by kernel_rfl) rfl
theorem R54 (x0 : T) : EE F 54 [x0] [] = KK F (FF [.cell 2 6 true] 0) [.code b54] (S0.put 0 (.t x0)) := EE_run (fn := i54) (by kernel_rfl) rfl
theorem R55 (x0 : T) : EE F 55 [x0] [] = KK F (FF [.cell 2 2 true] 0) [.code b55] (S0.put 0 (.t x0)) := EE_run (fn := i55) (by kernel_rfl) rfl
theorem R56 (x0 x1 : T) : EE F 56 [x0, x1] [] = KK F (FF [.cell 4 3 true, .tmp 5] 0) [.code b56] ((S0.put 0 (.t x0)).put 1 (.t x1)) := EE_run (fn := i56) (by kernel_rfl) rfl
theorem R57 (x0 x1 : T) : EE F 57 [x0, x1] [] = KK F (FF [.tmp 4] 0) [.code b57] ((S0.put 0 (.t x0)).put 1 (.t x1)) := EE_run (fn := i57) (by kernel_rfl) rfl
theorem R58 (x0 x1 : T) : EE F 58 [x0, x1] [] = KK F (FF [.tmp 4] 0) [.code b58] ((S0.put 0 (.t x0)).put 1 (.t x1)) := EE_run (fn := i58) (by kernel_rfl) rfl
theorem R59 (x0 x1 : T) : EE F 59 [x0, x1] [] = KK F (FF [.tmp 4] 0) [.code b59] ((S0.put 0 (.t x0)).put 1 (.t x1)) := EE_run (fn := i59) (by kernel_rfl) rfl
theorem R60 (x0 x1 : T) : EE F 60 [x0, x1] [] = KK F (FF [.tmp 4] 0) [.code b60] ((S0.put 0 (.t x0)).put 1 (.t x1)) := EE_run (fn := i60) (by kernel_rfl) rfl
theorem R61 (x0 x1 : T) : EE F 61 [x0, x1] [] = KK F (FF [.tmp 4] 0) [.code b61] ((S0.put 0 (.t x0)).put 1 (.t x1)) := EE_run (fn := i61) (by kernel_rfl) rfl
theorem R65 (x0 : T) : EE F 65 [x0] [] = KK F (FF [.tmp 2] 0) [.code b65] (S0.put 0 (.t x0)) := EE_run (fn := i65) (by kernel_rfl) rfl
theorem R66 (x0 x1 : T) : EE F 66 [x0, x1] [] = KK F (FF [.tmp 4] 0) [.code b66] ((S0.put 0 (.t x0)).put 1 (.t x1)) := EE_run (fn := i66) (by kernel_rfl) rfl
theorem R71 (x0 : T) : EE F 71 [x0] [] = KK F (FF [.tmp 2] 0) [.code b71] (S0.put 0 (.t x0)) := EE_run (fn := i71) (by kernel_rfl) rfl
theorem R102 (x0 : T) : EE F 102 [x0] [] = KK F (FF [.tmp 2] 0) [.code b102] (S0.put 0 (.t x0)) := EE_run (fn := i102) (by kernel_rfl) rfl
theorem R103 (x0 x1 : T) : EE F 103 [x0, x1] [] = KK F (FF [.tmp 4] 0) [.code b103] ((S0.put 0 (.t x0)).put 1 (.t x1)) := EE_run (fn := i103) (by kernel_rfl) rfl
theorem R104 (x0 : T) : EE F 104 [x0] [] = KK F (FF [.tmp 2] 0) [.code b104] (S0.put 0 (.t x0)) := EE_run (fn := i104) (by kernel_rfl) rfl
theorem R105 (x0 : T) : EE F 105 [x0] [] = KK F (FF [.tmp 2] 0) [.code b105] (S0.put 0 (.t x0)) := EE_run (fn := i105) (by kernel_rfl) rfl
theorem R106 (x0 x1 : T) : EE F 106 [x0, x1] [] = KK F (FF [.tmp 4] 0) [.code b106] ((S0.put 0 (.t x0)).put 1 (.t x1)) := EE_run (fn := i106) (by kernel_rfl) rfl
theorem R113 (x0 x1 : T) : EE F 113 [x0, x1] [] = KK F (FF [.tmp 4] 0) [.code b113] ((S0.put 0 (.t x0)).put 1 (.t x1)) := EE_run (fn := i113) (by kernel_rfl) rfl
theorem R115 (x0 : T) : EE F 115 [x0] [] = KK F (FF [.tmp 2] 0) [.code b115] (S0.put 0 (.t x0)) := EE_run (fn := i115) (by kernel_rfl) rfl
theorem R121 (x0 x1 : T) : EE F 121 [x0, x1] [] = KK F (FF [.tmp 4, .tmp 5] 0) [.code b121] ((S0.put 0 (.t x0)).put 1 (.t x1)) := EE_run (fn := i121) (by kernel_rfl) rfl
theorem R122 (x0 x1 : T) : EE F 122 [x0, x1] [] = KK F (FF [.tmp 4] 0) [.code b122] ((S0.put 0 (.t x0)).put 1 (.t x1)) := EE_run (fn := i122) (by kernel_rfl) rfl
theorem R123 (x0 x1 : T) : EE F 123 [x0, x1] [] = KK F (FF [.tmp 4] 0) [.code b123] ((S0.put 0 (.t x0)).put 1 (.t x1)) := EE_run (fn := i123) (by kernel_rfl) rfl
theorem R124 (x0 x1 : T) : EE F 124 [x0, x1] [] = KK F (FF [.cell 4 2 true, .tmp 5] 0) [.code b124] ((S0.put 0 (.t x0)).put 1 (.t x1)) := EE_run (fn := i124) (by kernel_rfl) rfl
theorem R125 (x0 : T) : EE F 125 [x0] [] = KK F (FF [.tmp 2] 0) [.code b125] (S0.put 0 (.t x0)) := EE_run (fn := i125) (by kernel_rfl) rfl
theorem R126 (x0 x1 : T) : EE F 126 [x0, x1] [] = KK F (FF [.tmp 4] 0) [.code b126] ((S0.put 0 (.t x0)).put 1 (.t x1)) := EE_run (fn := i126) (by kernel_rfl) rfl
theorem R127 (x0 : T) : EE F 127 [x0] [] = KK F (FF [.tmp 2] 0) [.code b127] (S0.put 0 (.t x0)) := EE_run (fn := i127) (by kernel_rfl) rfl
theorem R128 (x0 : T) : EE F 128 [x0] [] = KK F (FF [.tmp 2] 0) [.code b128] (S0.put 0 (.t x0)) := EE_run (fn := i128) (by kernel_rfl) rfl
theorem R129 (x0 x1 : T) : EE F 129 [x0, x1] [] = KK F (FF [.cell 4 2 true, .tmp 5] 0) [.code b129] ((S0.put 0 (.t x0)).put 1 (.t x1)) := EE_run (fn := i129) (by kernel_rfl) rfl
theorem R130 (x0 x1 : T) : EE F 130 [x0, x1] [] = KK F (FF [.tmp 4] 0) [.code b130] ((S0.put 0 (.t x0)).put 1 (.t x1)) := EE_run (fn := i130) (by kernel_rfl) rfl
theorem R131 (x0 x1 : T) : EE F 131 [x0, x1] [] = KK F (FF [.tmp 4] 0) [.code b131] ((S0.put 0 (.t x0)).put 1 (.t x1)) := EE_run (fn := i131) (by kernel_rfl) rfl
theorem R132 (x0 x1 : T) : EE F 132 [x0, x1] [] = KK F (FF [.tmp 4] 0) [.code b132] ((S0.put 0 (.t x0)).put 1 (.t x1)) := EE_run (fn := i132) (by kernel_rfl) rfl
theorem R134 (x0 x1 x2 : T) : EE F 134 [x0, x1, x2] [] = KK F (FF [.tmp 6] 0) [.code b134] (((S0.put 0 (.t x0)).put 1 (.t x1)).put 2 (.t x2)) := EE_run (fn := i134) (by kernel_rfl) rfl
theorem R136 (x0 x1 x2 : T) : EE F 136 [x0, x1, x2] [] = KK F (FF [.tmp 6] 0) [.code b136] (((S0.put 0 (.t x0)).put 1 (.t x1)).put 2 (.t x2)) := EE_run (fn := i136) (by kernel_rfl) rfl
theorem R137 (x0 : T) : EE F 137 [x0] [] = KK F (FF [.tmp 2] 0) [.code b137] (S0.put 0 (.t x0)) := EE_run (fn := i137) (by kernel_rfl) rfl
theorem R138 (x0 : T) : EE F 138 [x0] [] = KK F (FF [.tmp 2] 0) [.code b138] (S0.put 0 (.t x0)) := EE_run (fn := i138) (by kernel_rfl) rfl
theorem R139 (x0 : T) : EE F 139 [x0] [] = KK F (FF [.tmp 2] 0) [.code b139] (S0.put 0 (.t x0)) := EE_run (fn := i139) (by kernel_rfl) rfl
theorem R144 (x0 : T) : EE F 144 [x0] [] = KK F (FF [.tmp 2] 0) [.code b144] (S0.put 0 (.t x0)) := EE_run (fn := i144) (by kernel_rfl) rfl
theorem R145 (x0 x1 : T) : EE F 145 [x0, x1] [] = KK F (FF [.cell 4 2 true, .cell 5 2 true, .tmp 6] 0) [.code b145] ((S0.put 0 (.t x0)).put 1 (.t x1)) := EE_run (fn := i145) (by kernel_rfl) rfl
theorem R171 (x0 : T) : EE F 171 [x0] [] = KK F (FF [.tmp 2] 0) [.code b171] (S0.put 0 (.t x0)) := EE_run (fn := i171) (by kernel_rfl) rfl
theorem R172 (x0 : T) : EE F 172 [x0] [] = KK F (FF [.tmp 2] 0) [.code b172] (S0.put 0 (.t x0)) := EE_run (fn := i172) (by kernel_rfl) rfl
theorem R178 (x0 : T) : EE F 178 [x0] [] = KK F (FF [.tmp 2] 0) [.code b178] (S0.put 0 (.t x0)) := EE_run (fn := i178) (by kernel_rfl) rfl
theorem R185 (x0 x1 x2 : T) : EE F 185 [x0, x1, x2] [] = KK F (FF [.tmp 6, .tmp 7] 0) [.code b185] (((S0.put 0 (.t x0)).put 1 (.t x1)).put 2 (.t x2)) := EE_run (fn := i185) (by kernel_rfl) rfl
theorem R186 (x0 x1 : T) : EE F 186 [x0, x1] [] = KK F (FF [.tmp 4] 0) [.code b186] ((S0.put 0 (.t x0)).put 1 (.t x1)) := EE_run (fn := i186) (by kernel_rfl) rfl
theorem R187 (x0 x1 : T) : EE F 187 [x0, x1] [] = KK F (FF [.tmp 4] 0) [.code b187] ((S0.put 0 (.t x0)).put 1 (.t x1)) := EE_run (fn := i187) (by kernel_rfl) rfl
theorem R188 (x0 x1 : T) : EE F 188 [x0, x1] [] = KK F (FF [.tmp 4] 0) [.code b188] ((S0.put 0 (.t x0)).put 1 (.t x1)) := EE_run (fn := i188) (by kernel_rfl) rfl
theorem R189 (x0 : T) : EE F 189 [x0] [] = KK F (FF [.tmp 2] 0) [.code b189] (S0.put 0 (.t x0)) := EE_run (fn := i189) (by kernel_rfl) rfl
theorem R190 (x0 x1 : T) : EE F 190 [x0, x1] [] = KK F (FF [.cell 4 2 true, .cell 5 2 true, .tmp 6] 0) [.code b190] ((S0.put 0 (.t x0)).put 1 (.t x1)) := EE_run (fn := i190) (by kernel_rfl) rfl
theorem R191 (x0 : T) : EE F 191 [x0] [] = KK F (FF [.cell 2 2 true] 0) [.code b191] (S0.put 0 (.t x0)) := EE_run (fn := i191) (by kernel_rfl) rfl
theorem R192 (x0 : T) : EE F 192 [x0] [] = KK F (FF [.cell 2 3 true] 0) [.code b192] (S0.put 0 (.t x0)) := EE_run (fn := i192) (by kernel_rfl) rfl
theorem R193 (x0 x1 : T) : EE F 193 [x0, x1] [] = KK F (FF [.tmp 4] 0) [.code b193] ((S0.put 0 (.t x0)).put 1 (.t x1)) := EE_run (fn := i193) (by kernel_rfl) rfl
theorem R194 (x0 x1 : T) : EE F 194 [x0, x1] [] = KK F (FF [.tmp 4] 0) [.code b194] ((S0.put 0 (.t x0)).put 1 (.t x1)) := EE_run (fn := i194) (by kernel_rfl) rfl
theorem R195 (x0 : T) : EE F 195 [x0] [] = KK F (FF [.tmp 2] 0) [.code b195] (S0.put 0 (.t x0)) := EE_run (fn := i195) (by kernel_rfl) rfl
theorem R215 (x0 : T) : EE F 215 [x0] [] = KK F (FF [.tmp 2] 0) [.code b215] (S0.put 0 (.t x0)) := EE_run (fn := i215) (by kernel_rfl) rfl
end Go.Proofs.YtdnhamehpdlbgaaV
