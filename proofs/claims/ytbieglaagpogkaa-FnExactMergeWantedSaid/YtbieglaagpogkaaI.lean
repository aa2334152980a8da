/- The table of functions, and that each stands for the program's. -/
import Derived.Test.YtbieglaagpogkaaV27
import Derived.Test.YtbieglaagpogkaaS3
import Derived.Test.YtbieglaagpogkaaI0
import Derived.Test.YtbieglaagpogkaaProg
import Derived.KernelRfl
namespace Go.Proofs.YtbieglaagpogkaaV
open Go
def tab : List (Nat × IFn) := [(3, i3), (4, i4), (5, i5), (6, i6), (7, i7), (8, i8), (9, i9), (10, i10), (11, i11), (12, i12), (13, i13), (14, i14), (15, i15), (16, i16), (17, i17), (18, i18), (19, i19), (20, i20), (21, i21), (22, i22), (23, i23), (24, i24), (25, i25), (26, i26), (27, i27), (28, i28), (29, i29), (30, i30), (31, i31), (32, i32), (33, i33), (34, i34), (35, i35), (36, i36), (37, i37), (38, i38), (39, i39), (40, i40), (41, i41), (42, i42), (43, i43), (44, i44), (45, i45), (46, i46), (47, i47), (48, i48), (49, i49), (50, i50), (51, i51), (52, i52), (53, i53), (54, i54), (55, i55), (56, i56), (57, i57), (58, i58), (59, i59), (60, i60), (61, i61), (62, i62), (63, i63), (64, i64), (65, i65), (66, i66), (67, i67), (68, i68), (69, i69), (70, i70), (71, i71), (72, i72), (73, i73), (74, i74), (75, i75), (76, i76), (77, i77), (78, i78), (79, i79), (80, i80), (81, i81), (82, i82), (83, i83), (84, i84), (85, i85), (86, i86), (87, i87), (88, i88), (89, i89), (90, i90), (91, i91), (92, i92), (93, i93), (94, i94), (95, i95), (96, i96), (97, i97), (98, i98), (99, i99), (100, i100), (101, i101), (102, i102), (103, i103), (104, i104), (105, i105), (106, i106), (107, i107), (108, i108), (109, i109), (110, i110), (111, i111), (112, i112), (113, i113), (114, i114), (115, i115), (116, i116), (117, i117), (118, i118), (119, i119), (120, i120), (121, i121), (122, i122), (123, i123), (124, i124), (125, i125), (126, i126), (127, i127), (128, i128), (129, i129), (130, i130), (131, i131), (132, i132), (133, i133), (134, i134), (135, i135), (136, i136), (137, i137), (138, i138), (139, i139), (140, i140), (141, i141), (142, i142), (143, i143), (144, i144), (145, i145), (146, i146), (147, i147), (148, i148), (149, i149), (150, i150), (151, i151), (152, i152), (153, i153), (154, i154), (155, i155), (156, i156), (157, i157), (158, i158), (159, i159), (160, i160), (161, i161), (162, i162), (163, i163), (164, i164), (165, i165), (166, i166), (167, i167), (168, i168), (169, i169), (170, i170), (171, i171), (172, i172), (173, i173), (174, i174), (175, i175), (176, i176), (177, i177)]
def F (f : Nat) : Option IFn := tab.lookup f
theorem tab_ok : tab.all (fun q => funOk drawOk Try.prog q.1 q.2) = true := by kernel_rfl
theorem lookup_all {l : List (Nat × IFn)} {p : Nat → IFn → Prop} (h : ∀ q, q ∈ l → p q.1 q.2) {f : Nat} {i : IFn} (hf : l.lookup f = some i) : p f i := by
  induction l with
  | nil => simp at hf
  | cons q l ih =>
    obtain ⟨g, j⟩ := q
    simp only [List.lookup_cons] at hf
    split at hf
    · rename_i he
      simp only [beq_iff_eq] at he
      cases hf
      subst he
      exact h (f, i) (List.mem_cons_self ..)
    · exact ih (fun q hq => h q (List.mem_cons_of_mem _ hq)) hf
theorem hF (f : Nat) (i : IFn) (hf : F f = some i) : funOk drawOk Try.prog f i = true :=
  lookup_all (p := fun f i => funOk drawOk Try.prog f i = true) (fun q hq => List.all_eq_true.1 tab_ok q hq) hf
theorem all_calls : CallSpec Try.prog (EE F) := eval_calls (draw_sound (by kernel_rfl)) hF
theorem R3 (x0 : T) : EE F 3 [x0] [] = KK F (FF [.tmp 2] 0) [.code b3] (S0.put 0 (.t x0)) := EE_run (fn := i3) (by kernel_rfl) rfl
theorem R4 (x0 : T) : EE F 4 [x0] [] = KK F (FF [.tmp 2] 0) [.code b4] (S0.put 0 (.t x0)) := EE_run (fn := i4) (by kernel_rfl) rfl
theorem R5 (x0 : T) : EE F 5 [x0] [] = KK F (FF [.tmp 2] 0) [.code b5] (S0.put 0 (.t x0)) := EE_run (fn := i5) (by kernel_rfl) rfl
theorem R6 (x0 : T) : EE F 6 [x0] [] = KK F (FF [.tmp 2] 0) [.code b6] (S0.put 0 (.t x0)) := EE_run (fn := i6) (by kernel_rfl) rfl
theorem R7 (x0 x1 : T) : EE F 7 [x0, x1] [] = KK F (FF [.tmp 4] 0) [.code b7] ((S0.put 0 (.t x0)).put 1 (.t x1)) := EE_run (fn := i7) (by kernel_rfl) rfl
theorem R8 (x0 : T) : EE F 8 [x0] [] = KK F (FF [.tmp 2] 0) [.code b8] (S0.put 0 (.t x0)) := EE_run (fn := i8) (by kernel_rfl) rfl
theorem R9 (x0 : T) : EE F 9 [x0] [] = KK F (FF [.tmp 2] 0) [.code b9] (S0.put 0 (.t x0)) := EE_run (fn := i9) (by kernel_rfl) rfl
theorem R10 (x0 : T) : EE F 10 [x0] [] = KK F (FF [.tmp 2] 0) [.code b10] (S0.put 0 (.t x0)) := EE_run (fn := i10) (by kernel_rfl) rfl
theorem R11 (x0 x1 : T) : EE F 11 [x0, x1] [] = KK F (FF [.tmp 4] 0) [.code b11] ((S0.put 0 (.t x0)).put 1 (.t x1)) := EE_run (fn := i11) (by kernel_rfl) rfl
theorem R12 (x0 : T) : EE F 12 [x0] [] = KK F (FF [.tmp 2] 0) [.code b12] (S0.put 0 (.t x0)) := EE_run (fn := i12) (by kernel_rfl) rfl
theorem R13 (x0 x1 x2 : T) : EE F 13 [x0, x1, x2] [] = KK F (FF [.tmp 6] 0) [.code b13] (((S0.put 0 (.t x0)).put 1 (.t x1)).put 2 (.t x2)) := EE_run (fn := i13) (by kernel_rfl) rfl
theorem R14 (x0 : T) : EE F 14 [x0] [] = KK F (FF [.tmp 2] 0) [.code b14] (S0.put 0 (.t x0)) := EE_run (fn := i14) (by kernel_rfl) rfl
theorem R15 (x0 : T) : EE F 15 [x0] [] = KK F (FF [.tmp 2, .tmp 3, .tmp 4] 0) [.code b15] (S0.put 0 (.t x0)) := EE_run (fn := i15) (by kernel_rfl) rfl
theorem R16 (x0 x1 x2 : T) : EE F 16 [x0, x1, x2] [] = KK F (FF [.tmp 6] 0) [.code b16] (((S0.put 0 (.t x0)).put 1 (.t x1)).put 2 (.t x2)) := EE_run (fn := i16) (by kernel_rfl) rfl
theorem R17 (x0 x1 x2 : T) : EE F 17 [x0, x1, x2] [] = KK F (FF [.tmp 6] 0) [.code b17] (((S0.put 0 (.t x0)).put 1 (.t x1)).put 2 (.t x2)) := EE_run (fn := i17) (by kernel_rfl) rfl
theorem R18 (x0 : T) : EE F 18 [x0] [] = KK F (FF [.tmp 2] 0) [.code b18] (S0.put 0 (.t x0)) := EE_run (fn := i18) (by kernel_rfl) rfl
theorem R19 (x0 x1 : T) : EE F 19 [x0, x1] [] = KK F (FF [.tmp 4] 0) [.code b19] ((S0.put 0 (.t x0)).put 1 (.t x1)) := EE_run (fn := i19) (by kernel_rfl) rfl
theorem R20 (x0 x1 x2 : T) : EE F 20 [x0, x1, x2] [] = KK F (FF [.tmp 6] 0) [.code b20] (((S0.put 0 (.t x0)).put 1 (.t x1)).put 2 (.t x2)) := EE_run (fn := i20) (by kernel_rfl) rfl
theorem R21 : EE F 21 [] [] = KK F (FF [.tmp 0] 0) [.code b21] S0 := EE_run (fn := i21) (by kernel_rfl) rfl
theorem R22 (x0 : T) : EE F 22 [x0] [] = KK F (FF [.tmp 2, .tmp 3, .tmp 4] 0) [.code b22] (S0.put 0 (.t x0)) := EE_run (fn := i22) (by kernel_rfl) rfl
theorem R23 (x0 x1 x2 : T) : EE F 23 [x0, x1, x2] [] = KK F (FF [.tmp 6, .tmp 7] 0) [.code b23] (((S0.put 0 (.t x0)).put 1 (.t x1)).put 2 (.t x2)) := EE_run (fn := i23) (by kernel_rfl) rfl
theorem R24 (x0 x1 x2 : T) : EE F 24 [x0, x1, x2] [] = KK F (FF [.tmp 6, .tmp 7] 0) [.code b24] (((S0.put 0 (.t x0)).put 1 (.t x1)).put 2 (.t x2)) := EE_run (fn := i24) (by kernel_rfl) rfl
theorem R25 (x0 x1 : T) : EE F 25 [x0, x1] [] = KK F (FF [.tmp 4] 0) [.code b25] ((S0.put 0 (.t x0)).put 1 (.t x1)) := EE_run (fn := i25) (by kernel_rfl) rfl
theorem R26 (x0 : T) : EE F 26 [x0] [] = KK F (FF [.tmp 2] 0) [.code b26] (S0.put 0 (.t x0)) := EE_run (fn := i26) (by kernel_rfl) rfl
theorem R27 (x0 : T) : EE F 27 [x0] [] = KK F (FF [.tmp 2, .tmp 3, .tmp 4] 0) [.code b27] (S0.put 0 (.t x0)) := EE_run (fn := i27) (by kernel_rfl) rfl
theorem R28 (x0 x1 x2 : T) : EE F 28 [x0, x1, x2] [] = KK F (FF [.tmp 6] 0) [.code b28] (((S0.put 0 (.t x0)).put 1 (.t x1)).put 2 (.t x2)) := EE_run (fn := i28) (by kernel_rfl) rfl
theorem R29 (x0 x1 x2 : T) : EE F 29 [x0, x1, x2] [] = KK F (FF [.tmp 6] 0) [.code b29] (((S0.put 0 (.t x0)).put 1 (.t x1)).put 2 (.t x2)) := EE_run (fn := i29) (by kernel_rfl) rfl
theorem R30 (x0 x1 : T) : EE F 30 [x0, x1] [] = KK F (FF [.tmp 4] 0) [.code b30] ((S0.put 0 (.t x0)).put 1 (.t x1)) := EE_run (fn := i30) (by kernel_rfl) rfl
theorem R31 (x0 : T) : EE F 31 [x0] [] = KK F (FF [.tmp 2] 0) [.code b31] (S0.put 0 (.t x0)) := EE_run (fn := i31) (by kernel_rfl) rfl
theorem R32 (x0 : T) : EE F 32 [x0] [] = KK F (FF [.cell 2 3 true] 0) [.code b32] (S0.put 0 (.t x0)) := EE_run (fn := i32) (by kernel_rfl) rfl
theorem R33 (x0 : T) : EE F 33 [x0] [] = KK F (FF [.tmp 2] 0) [.code b33] (S0.put 0 (.t x0)) := EE_run (fn := i33) (by kernel_rfl) rfl
theorem R34 (x0 x1 : T) : EE F 34 [x0, x1] [] = KK F (FF [.tmp 4] 0) [.code b34] ((S0.put 0 (.t x0)).put 1 (.t x1)) := EE_run (fn := i34) (by kernel_rfl) rfl
theorem R35 (x0 x1 : T) : EE F 35 [x0, x1] [] = KK F (FF [.tmp 4] 0) [.code b35] ((S0.put 0 (.t x0)).put 1 (.t x1)) := EE_run (fn := i35) (by kernel_rfl) rfl
theorem R36 (x0 x1 : T) : EE F 36 [x0, x1] [] = KK F (FF [.cell 4 3 true] 0) [.code b36] ((S0.put 0 (.t x0)).put 1 (.t x1)) := EE_run (fn := i36) (by kernel_rfl) rfl
theorem R37 (x0 : T) : EE F 37 [x0] [] = KK F (FF [.cell 2 3 true] 0) [.code b37] (S0.put 0 (.t x0)) := EE_run (fn := i37) (by kernel_rfl) rfl
theorem R38 (x0 : T) : EE F 38 [x0] [] = KK F (FF [.tmp 2] 0) [.code b38] (S0.put 0 (.t x0)) := EE_run (fn := i38) (by kernel_rfl) rfl
theorem R39 (x0 x1 : T) : EE F 39 [x0, x1] [] = KK F (FF [.cell 4 3 true] 0) [.code b39] ((S0.put 0 (.t x0)).put 1 (.t x1)) := EE_run (fn := i39) (by kernel_rfl) rfl
theorem R40 (x0 x1 : T) : EE F 40 [x0, x1] [] = KK F (FF [.tmp 4] 0) [.code b40] ((S0.put 0 (.t x0)).put 1 (.t x1)) := EE_run (fn := i40) (by kernel_rfl) rfl
theorem R41 (x0 x1 : T) : EE F 41 [x0, x1] [] = KK F (FF [.tmp 4] 0) [.code b41] ((S0.put 0 (.t x0)).put 1 (.t x1)) := EE_run (fn := i41) (by kernel_rfl) rfl
theorem R42 (x0 x1 : T) : EE F 42 [x0, x1] [] = KK F (FF [.tmp 4] 0) [.code b42] ((S0.put 0 (.t x0)).put 1 (.t x1)) := EE_run (fn := i42) (by kernel_rfl) rfl
theorem R43 (x0 x1 : T) : EE F 43 [x0, x1] [] = KK F (FF [.tmp 4] 0) [.code b43] ((S0.put 0 (.t x0)).put 1 (.t x1)) := EE_run (fn := i43) (by kernel_rfl) rfl
theorem R44 (x0 x1 : T) : EE F 44 [x0, x1] [] = KK F (FF [.tmp 4] 0) [.code b44] ((S0.put 0 (.t x0)).put 1 (.t x1)) := EE_run (fn := i44) (by kernel_rfl) rfl
theorem R45 (x0 x1 : T) : EE F 45 [x0, x1] [] = KK F (FF [.tmp 4] 0) [.code b45] ((S0.put 0 (.t x0)).put 1 (.t x1)) := EE_run (fn := i45) (by kernel_rfl) rfl
theorem R46 (x0 : T) : EE F 46 [x0] [] = KK F (FF [.tmp 2] 0) [.code b46] (S0.put 0 (.t x0)) := EE_run (fn := i46) (by kernel_rfl) rfl
theorem R47 (x0 : T) : EE F 47 [x0] [] = KK F (FF [.cell 2 24 true] 0) [.code b47] (S0.put 0 (.t x0)) := EE_run (fn := i47) (by kernel_rfl) rfl
theorem R48 (x0 : T) : EE F 48 [x0] [] = KK F (FF [.tmp 2] 0) [.code b48] (S0.put 0 (.t x0)) := EE_run (fn := i48) (by kernel_rfl) rfl
theorem R49 (x0 : T) : EE F 49 [x0] [] = KK F (FF [.tmp 2, .tmp 3, .cell 4 3 true] 0) [.code b49] (S0.put 0 (.t x0)) := EE_run (fn := i49) (by kernel_rfl) rfl
theorem R50 (x0 x1 x2 : T) : EE F 50 [x0, x1, x2] [] = KK F (FF [.tmp 6] 0) [.code b50] (((S0.put 0 (.t x0)).put 1 (.t x1)).put 2 (.t x2)) := EE_run (fn := i50) (by kernel_rfl) rfl
theorem R51 (x0 x1 x2 : T) : EE F 51 [x0, x1, x2] [] = KK F (FF [.tmp 6] 0) [.code b51] (((S0.put 0 (.t x0)).put 1 (.t x1)).put 2 (.t x2)) := EE_run (fn := i51) (by kernel_rfl) rfl
theorem R52 (x0 x1 : T) : EE F 52 [x0, x1] [] = KK F (FF [.cell 4 3 true, .tmp 5] 0) [.code b52] ((S0.put 0 (.t x0)).put 1 (.t x1)) := EE_run (fn := i52) (by kernel_rfl) rfl
theorem R53 (x0 : T) : EE F 53 [x0] [] = KK F (FF [.cell 2 3 true, .tmp 3] 0) [.code b53] (S0.put 0 (.t x0)) := EE_run (fn := i53) (by kernel_rfl) rfl
theorem R54 (x0 x1 : T) : EE F 54 [x0, x1] [] = KK F (FF [.tmp 4] 0) [.code b54] ((S0.put 0 (.t x0)).put 1 (.t x1)) := EE_run (fn := i54) (by kernel_rfl) rfl
theorem R55 (x0 : T) : EE F 55 [x0] [] = KK F (FF [.tmp 2] 0) [.code b55] (S0.put 0 (.t x0)) := EE_run (fn := i55) (by kernel_rfl) rfl
theorem R56 (x0 x1 : T) : EE F 56 [x0, x1] [] = KK F (FF [.tmp 4] 0) [.code b56] ((S0.put 0 (.t x0)).put 1 (.t x1)) := EE_run (fn := i56) (by kernel_rfl) rfl
theorem R57 (x0 x1 : T) : EE F 57 [x0, x1] [] = KK F (FF [.tmp 4] 0) [.code b57] ((S0.put 0 (.t x0)).put 1 (.t x1)) := EE_run (fn := i57) (by kernel_rfl) rfl
theorem R58 (x0 : T) : EE F 58 [x0] [] = KK F (FF [.cell 2 6 true] 0) [.code b58] (S0.put 0 (.t x0)) := EE_run (fn := i58) (by kernel_rfl) rfl
theorem R59 (x0 x1 : T) : EE F 59 [x0, x1] [] = KK F (FF [.tmp 4] 0) [.code b59] ((S0.put 0 (.t x0)).put 1 (.t x1)) := EE_run (fn := i59) (by kernel_rfl) rfl
theorem R60 (x0 x1 : T) : EE F 60 [x0, x1] [] = KK F (FF [.tmp 4] 0) [.code b60] ((S0.put 0 (.t x0)).put 1 (.t x1)) := EE_run (fn := i60) (by kernel_rfl) rfl
theorem R61 (x0 : T) : EE F 61 [x0] [] = KK F (FF [.tmp 2] 0) [.code b61] (S0.put 0 (.t x0)) := EE_run (fn := i61) (by kernel_rfl) rfl
theorem R62 (x0 : T) : EE F 62 [x0] [] = KK F (FF [.tmp 2] 0) [.code b62] (S0.put 0 (.t x0)) := EE_run (fn := i62) (by kernel_rfl) rfl
theorem R63 (x0 x1 : T) : EE F 63 [x0, x1] [] = KK F (FF [.tmp 4] 0) [.code b63] ((S0.put 0 (.t x0)).put 1 (.t x1)) := EE_run (fn := i63) (by kernel_rfl) rfl
theorem R64 (x0 x1 : T) : EE F 64 [x0, x1] [] = KK F (FF [.tmp 4] 0) [.code b64] ((S0.put 0 (.t x0)).put 1 (.t x1)) := EE_run (fn := i64) (by kernel_rfl) rfl
theorem R65 (x0 x1 x2 : T) : EE F 65 [x0, x1, x2] [] = KK F (FF [.tmp 6, .tmp 7] 0) [.code b65] (((S0.put 0 (.t x0)).put 1 (.t x1)).put 2 (.t x2)) := EE_run (fn := i65) (by kernel_rfl) rfl
theorem R66 (x0 : T) : EE F 66 [x0] [] = KK F (FF [.tmp 2] 0) [.code b66] (S0.put 0 (.t x0)) := EE_run (fn := i66) (by kernel_rfl) rfl
theorem R67 (x0 : T) : EE F 67 [x0] [] = KK F (FF [.cell 2 2 true] 0) [.code b67] (S0.put 0 (.t x0)) := EE_run (fn := i67) (by kernel_rfl) rfl
theorem R68 (x0 x1 x2 : T) : EE F 68 [x0, x1, x2] [] = KK F (FF [.tmp 6, .tmp 7] 0) [.code b68] (((S0.put 0 (.t x0)).put 1 (.t x1)).put 2 (.t x2)) := EE_run (fn := i68) (by kernel_rfl) rfl
theorem R69 (x0 x1 : T) : EE F 69 [x0, x1] [] = KK F (FF [.tmp 4] 0) [.code b69] ((S0.put 0 (.t x0)).put 1 (.t x1)) := EE_run (fn := i69) (by kernel_rfl) rfl
theorem R70 (x0 x1 : T) : EE F 70 [x0, x1] [] = KK F (FF [.tmp 4] 0) [.code b70] ((S0.put 0 (.t x0)).put 1 (.t x1)) := EE_run (fn := i70) (by kernel_rfl) rfl
theorem R71 (x0 x1 : T) : EE F 71 [x0, x1] [] = KK F (FF [.tmp 4] 0) [.code b71] ((S0.put 0 (.t x0)).put 1 (.t x1)) := EE_run (fn := i71) (by kernel_rfl) rfl
theorem R72 (x0 x1 : T) : EE F 72 [x0, x1] [] = KK F (FF [.tmp 4] 0) [.code b72] ((S0.put 0 (.t x0)).put 1 (.t x1)) := EE_run (fn := i72) (by kernel_rfl) rfl
theorem R73 (x0 x1 : T) : EE F 73 [x0, x1] [] = KK F (FF [.tmp 4] 0) [.code b73] ((S0.put 0 (.t x0)).put 1 (.t x1)) := EE_run (fn := i73) (by kernel_rfl) rfl
theorem R74 (x0 : T) : EE F 74 [x0] [] = KK F (FF [.cell 2 3 true] 0) [.code b74] (S0.put 0 (.t x0)) := EE_run (fn := i74) (by kernel_rfl) rfl
theorem R75 (x0 : T) : EE F 75 [x0] [] = KK F (FF [.tmp 2] 0) [.code b75] (S0.put 0 (.t x0)) := EE_run (fn := i75) (by kernel_rfl) rfl
theorem R76 (x0 x1 : T) : EE F 76 [x0, x1] [] = KK F (FF [.tmp 4] 0) [.code b76] ((S0.put 0 (.t x0)).put 1 (.t x1)) := EE_run (fn := i76) (by kernel_rfl) rfl
theorem R77 (x0 x1 : T) : EE F 77 [x0, x1] [] = KK F (FF [.tmp 4] 0) [.code b77] ((S0.put 0 (.t x0)).put 1 (.t x1)) := EE_run (fn := i77) (by kernel_rfl) rfl
theorem R78 (x0 x1 : T) : EE F 78 [x0, x1] [] = KK F (FF [.tmp 4] 0) [.code b78] ((S0.put 0 (.t x0)).put 1 (.t x1)) := EE_run (fn := i78) (by kernel_rfl) rfl
theorem R79 (x0 : T) : EE F 79 [x0] [] = KK F (FF [.tmp 2] 0) [.code b79] (S0.put 0 (.t x0)) := EE_run (fn := i79) (by kernel_rfl) rfl
theorem R80 (x0 : T) : EE F 80 [x0] [] = KK F (FF [.tmp 2] 0) [.code b80] (S0.put 0 (.t x0)) := EE_run (fn := i80) (by kernel_rfl) rfl
theorem R81 (x0 : T) : EE F 81 [x0] [] = KK F (FF [.tmp 2] 0) [.code b81] (S0.put 0 (.t x0)) := EE_run (fn := i81) (by kernel_rfl) rfl
theorem R82 (x0 x1 x2 : T) : EE F 82 [x0, x1, x2] [] = KK F (FF [.tmp 6] 0) [.code b82] (((S0.put 0 (.t x0)).put 1 (.t x1)).put 2 (.t x2)) := EE_run (fn := i82) (by kernel_rfl) rfl
theorem R83 (x0 : T) : EE F 83 [x0] [] = KK F (FF [.tmp 2] 0) [.code b83] (S0.put 0 (.t x0)) := EE_run (fn := i83) (by kernel_rfl) rfl
theorem R84 (x0 : T) : EE F 84 [x0] [] = KK F (FF [.tmp 2] 0) [.code b84] (S0.put 0 (.t x0)) := EE_run (fn := i84) (by kernel_rfl) rfl
theorem R85 (x0 : T) : EE F 85 [x0] [] = KK F (FF [.tmp 2] 0) [.code b85] (S0.put 0 (.t x0)) := EE_run (fn := i85) (by kernel_rfl) rfl
theorem R86 (x0 x1 : T) : EE F 86 [x0, x1] [] = KK F (FF [.tmp 4] 0) [.code b86] ((S0.put 0 (.t x0)).put 1 (.t x1)) := EE_run (fn := i86) (by kernel_rfl) rfl
theorem R87 (x0 x1 x2 : T) : EE F 87 [x0, x1, x2] [] = KK F (FF [.tmp 6] 0) [.code b87] (((S0.put 0 (.t x0)).put 1 (.t x1)).put 2 (.t x2)) := EE_run (fn := i87) (by kernel_rfl) rfl
theorem R88 (x0 x1 : T) : EE F 88 [x0, x1] [] = KK F (FF [.tmp 4] 0) [.code b88] ((S0.put 0 (.t x0)).put 1 (.t x1)) := EE_run (fn := i88) (by kernel_rfl) rfl
theorem R89 (x0 x1 x2 x3 : T) : EE F 89 [x0, x1, x2, x3] [] = KK F (FF [.tmp 8] 0) [.code b89] ((((S0.put 0 (.t x0)).put 1 (.t x1)).put 2 (.t x2)).put 3 (.t x3)) := EE_run (fn := i89) (by kernel_rfl) rfl
theorem R90 (x0 x1 : T) : EE F 90 [x0, x1] [] = KK F (FF [.tmp 4] 0) [.code b90] ((S0.put 0 (.t x0)).put 1 (.t x1)) := EE_run (fn := i90) (by kernel_rfl) rfl
theorem R91 (x0 : T) : EE F 91 [x0] [] = KK F (FF [.tmp 2] 0) [.code b91] (S0.put 0 (.t x0)) := EE_run (fn := i91) (by kernel_rfl) rfl
theorem R92 (x0 : T) : EE F 92 [x0] [] = KK F (FF [.tmp 2] 0) [.code b92] (S0.put 0 (.t x0)) := EE_run (fn := i92) (by kernel_rfl) rfl
theorem R93 (x0 x1 : T) : EE F 93 [x0, x1] [] = KK F (FF [.tmp 4] 0) [.code b93] ((S0.put 0 (.t x0)).put 1 (.t x1)) := EE_run (fn := i93) (by kernel_rfl) rfl
theorem R94 (x0 : T) : EE F 94 [x0] [] = KK F (FF [.tmp 2] 0) [.code b94] (S0.put 0 (.t x0)) := EE_run (fn := i94) (by kernel_rfl) rfl
theorem R95 (x0 : T) : EE F 95 [x0] [] = KK F (FF [.tmp 2] 0) [.code b95] (S0.put 0 (.t x0)) := EE_run (fn := i95) (by kernel_rfl) rfl
theorem R96 (x0 : T) : EE F 96 [x0] [] = KK F (FF [.tmp 2] 0) [.code b96] (S0.put 0 (.t x0)) := EE_run (fn := i96) (by kernel_rfl) rfl
theorem R97 (x0 x1 : T) : EE F 97 [x0, x1] [] = KK F (FF [.tmp 4] 0) [.code b97] ((S0.put 0 (.t x0)).put 1 (.t x1)) := EE_run (fn := i97) (by kernel_rfl) rfl
theorem R98 (x0 x1 : T) : EE F 98 [x0, x1] [] = KK F (FF [.tmp 4] 0) [.code b98] ((S0.put 0 (.t x0)).put 1 (.t x1)) := EE_run (fn := i98) (by kernel_rfl) rfl
theorem R99 (x0 x1 : T) : EE F 99 [x0, x1] [] = KK F (FF [.tmp 4] 0) [.code b99] ((S0.put 0 (.t x0)).put 1 (.t x1)) := EE_run (fn := i99) (by kernel_rfl) rfl
theorem R100 (x0 : T) : EE F 100 [x0] [] = KK F (FF [.tmp 2] 0) [.code b100] (S0.put 0 (.t x0)) := EE_run (fn := i100) (by kernel_rfl) rfl
theorem R101 (x0 : T) : EE F 101 [x0] [] = KK F (FF [.cell 2 3 true] 0) [.code b101] (S0.put 0 (.t x0)) := EE_run (fn := i101) (by kernel_rfl) rfl
theorem R102 (x0 x1 : T) : EE F 102 [x0, x1] [] = KK F (FF [.cell 4 3 true, .tmp 5] 0) [.code b102] ((S0.put 0 (.t x0)).put 1 (.t x1)) := EE_run (fn := i102) (by kernel_rfl) rfl
theorem R103 (x0 : T) : EE F 103 [x0] [] = KK F (FF [.cell 2 3 true] 0) [.code b103] (S0.put 0 (.t x0)) := EE_run (fn := i103) (by kernel_rfl) rfl
theorem R104 (x0 x1 : T) : EE F 104 [x0, x1] [] = KK F (FF [.cell 4 3 true, .tmp 5] 0) [.code b104] ((S0.put 0 (.t x0)).put 1 (.t x1)) := EE_run (fn := i104) (by kernel_rfl) rfl
theorem R105 (x0 x1 : T) : EE F 105 [x0, x1] [] = KK F (FF [.tmp 4] 0) [.code b105] ((S0.put 0 (.t x0)).put 1 (.t x1)) := EE_run (fn := i105) (by kernel_rfl) rfl
theorem R106 (x0 x1 : T) : EE F 106 [x0, x1] [] = KK F (FF [.tmp 4] 0) [.code b106] ((S0.put 0 (.t x0)).put 1 (.t x1)) := EE_run (fn := i106) (by kernel_rfl) rfl
theorem R107 (x0 x1 : T) : EE F 107 [x0, x1] [] = KK F (FF [.tmp 4] 0) [.code b107] ((S0.put 0 (.t x0)).put 1 (.t x1)) := EE_run (fn := i107) (by kernel_rfl) rfl
theorem R108 (x0 x1 : T) : EE F 108 [x0, x1] [] = KK F (FF [.tmp 4] 0) [.code b108] ((S0.put 0 (.t x0)).put 1 (.t x1)) := EE_run (fn := i108) (by kernel_rfl) rfl
theorem R109 (x0 : T) : EE F 109 [x0] [] = KK F (FF [.tmp 2] 0) [.code b109] (S0.put 0 (.t x0)) := EE_run (fn := i109) (by kernel_rfl) rfl
theorem R110 (x0 : T) : EE F 110 [x0] [] = KK F (FF [.tmp 2] 0) [.code b110] (S0.put 0 (.t x0)) := EE_run (fn := i110) (by kernel_rfl) rfl
theorem R111 (x0 : T) : EE F 111 [x0] [] = KK F (FF [.tmp 2] 0) [.code b111] (S0.put 0 (.t x0)) := EE_run (fn := i111) (by kernel_rfl) rfl
theorem R112 (x0 : T) : EE F 112 [x0] [] = KK F (FF [.cell 2 4 true] 0) [.code b112] (S0.put 0 (.t x0)) := EE_run (fn := i112) (by kernel_rfl) rfl
theorem R113 (x0 : T) : EE F 113 [x0] [] = KK F (FF [.cell 2 9 true] 0) [.code b113] (S0.put 0 (.t x0)) := EE_run (fn := i113) (by kernel_rfl) rfl
theorem R114 (x0 : T) : EE F 114 [x0] [] = KK F (FF [.cell 2 7 true] 0) [.code b114] (S0.put 0 (.t x0)) := EE_run (fn := i114) (by kernel_rfl) rfl
theorem R115 (x0 : T) : EE F 115 [x0] [] = KK F (FF [.tmp 2] 0) [.code b115] (S0.put 0 (.t x0)) := EE_run (fn := i115) (by kernel_rfl) rfl
theorem R116 (x0 : T) : EE F 116 [x0] [] = KK F (FF [.tmp 2] 0) [.code b116] (S0.put 0 (.t x0)) := EE_run (fn := i116) (by kernel_rfl) rfl
theorem R117 (x0 : T) : EE F 117 [x0] [] = KK F (FF [.tmp 2] 0) [.code b117] (S0.put 0 (.t x0)) := EE_run (fn := i117) (by kernel_rfl) rfl
theorem R118 (x0 : T) : EE F 118 [x0] [] = KK F (FF [.tmp 2] 0) [.code b118] (S0.put 0 (.t x0)) := EE_run (fn := i118) (by kernel_rfl) rfl
theorem R119 (x0 : T) : EE F 119 [x0] [] = KK F (FF [.tmp 2] 0) [.code b119] (S0.put 0 (.t x0)) := EE_run (fn := i119) (by kernel_rfl) rfl
theorem R120 (x0 x1 : T) : EE F 120 [x0, x1] [] = KK F (FF [.cell 4 3 true] 0) [.code b120] ((S0.put 0 (.t x0)).put 1 (.t x1)) := EE_run (fn := i120) (by kernel_rfl) rfl
theorem R121 (x0 x1 : T) : EE F 121 [x0, x1] [] = KK F (FF [.tmp 4] 0) [.code b121] ((S0.put 0 (.t x0)).put 1 (.t x1)) := EE_run (fn := i121) (by kernel_rfl) rfl
theorem R122 (x0 : T) : EE F 122 [x0] [] = KK F (FF [.tmp 2] 0) [.code b122] (S0.put 0 (.t x0)) := EE_run (fn := i122) (by kernel_rfl) rfl
theorem R123 (x0 x1 : T) : EE F 123 [x0, x1] [] = KK F (FF [.tmp 4] 0) [.code b123] ((S0.put 0 (.t x0)).put 1 (.t x1)) := EE_run (fn := i123) (by kernel_rfl) rfl
theorem R124 (x0 x1 : T) : EE F 124 [x0, x1] [] = KK F (FF [.cell 4 2 true, .tmp 5] 0) [.code b124] ((S0.put 0 (.t x0)).put 1 (.t x1)) := EE_run (fn := i124) (by kernel_rfl) rfl
theorem R125 (x0 : T) : EE F 125 [x0] [] = KK F (FF [.tmp 2] 0) [.code b125] (S0.put 0 (.t x0)) := EE_run (fn := i125) (by kernel_rfl) rfl
theorem R126 (x0 : T) : EE F 126 [x0] [] = KK F (FF [.tmp 2] 0) [.code b126] (S0.put 0 (.t x0)) := EE_run (fn := i126) (by kernel_rfl) rfl
theorem R127 (x0 : T) : EE F 127 [x0] [] = KK F (FF [.tmp 2] 0) [.code b127] (S0.put 0 (.t x0)) := EE_run (fn := i127) (by kernel_rfl) rfl
theorem R128 (x0 x1 : T) : EE F 128 [x0, x1] [] = KK F (FF [.cell 4 2 true, .tmp 5] 0) [.code b128] ((S0.put 0 (.t x0)).put 1 (.t x1)) := EE_run (fn := i128) (by kernel_rfl) rfl
theorem R129 (x0 x1 : T) : EE F 129 [x0, x1] [] = KK F (FF [.tmp 4] 0) [.code b129] ((S0.put 0 (.t x0)).put 1 (.t x1)) := EE_run (fn := i129) (by kernel_rfl) rfl
theorem R130 (x0 : T) : EE F 130 [x0] [] = KK F (FF [.tmp 2] 0) [.code b130] (S0.put 0 (.t x0)) := EE_run (fn := i130) (by kernel_rfl) rfl
theorem R131 (x0 : T) : EE F 131 [x0] [] = KK F (FF [.tmp 2] 0) [.code b131] (S0.put 0 (.t x0)) := EE_run (fn := i131) (by kernel_rfl) rfl
theorem R132 (x0 x1 x2 : T) : EE F 132 [x0, x1, x2] [] = KK F (FF [.tmp 6] 0) [.code b132] (((S0.put 0 (.t x0)).put 1 (.t x1)).put 2 (.t x2)) := EE_run (fn := i132) (by kernel_rfl) rfl
theorem R133 (x0 x1 : T) : EE F 133 [x0, x1] [] = KK F (FF [.tmp 4] 0) [.code b133] ((S0.put 0 (.t x0)).put 1 (.t x1)) := EE_run (fn := i133) (by kernel_rfl) rfl
theorem R134 (x0 : T) : EE F 134 [x0] [] = KK F (FF [.tmp 2] 0) [.code b134] (S0.put 0 (.t x0)) := EE_run (fn := i134) (by kernel_rfl) rfl
theorem R135 (x0 x1 : T) : EE F 135 [x0, x1] [] = KK F (FF [.tmp 4, .cell 5 2 true] 0) [.code b135] ((S0.put 0 (.t x0)).put 1 (.t x1)) := EE_run (fn := i135) (by kernel_rfl) rfl
theorem R136 (x0 x1 : T) : EE F 136 [x0, x1] [] = KK F (FF [.cell 4 2 true] 0) [.code b136] ((S0.put 0 (.t x0)).put 1 (.t x1)) := EE_run (fn := i136) (by kernel_rfl) rfl
theorem R137 (x0 x1 : T) : EE F 137 [x0, x1] [] = KK F (FF [.tmp 4] 0) [.code b137] ((S0.put 0 (.t x0)).put 1 (.t x1)) := EE_run (fn := i137) (by kernel_rfl) rfl
theorem R138 (x0 x1 : T) : EE F 138 [x0, x1] [] = KK F (FF [.tmp 4] 0) [.code b138] ((S0.put 0 (.t x0)).put 1 (.t x1)) := EE_run (fn := i138) (by kernel_rfl) rfl
theorem R139 (x0 : T) : EE F 139 [x0] [] = KK F (FF [.tmp 2] 0) [.code b139] (S0.put 0 (.t x0)) := EE_run (fn := i139) (by kernel_rfl) rfl
theorem R140 (x0 x1 : T) : EE F 140 [x0, x1] [] = KK F (FF [.tmp 4] 0) [.code b140] ((S0.put 0 (.t x0)).put 1 (.t x1)) := EE_run (fn := i140) (by kernel_rfl) rfl
theorem R141 (x0 x1 : T) : EE F 141 [x0, x1] [] = KK F (FF [.tmp 4] 0) [.code b141] ((S0.put 0 (.t x0)).put 1 (.t x1)) := EE_run (fn := i141) (by kernel_rfl) rfl
theorem R142 (x0 x1 : T) : EE F 142 [x0, x1] [] = KK F (FF [.tmp 4] 0) [.code b142] ((S0.put 0 (.t x0)).put 1 (.t x1)) := EE_run (fn := i142) (by kernel_rfl) rfl
theorem R143 (x0 : T) : EE F 143 [x0] [] = KK F (FF [.tmp 2] 0) [.code b143] (S0.put 0 (.t x0)) := EE_run (fn := i143) (by kernel_rfl) rfl
theorem R144 (x0 : T) : EE F 144 [x0] [] = KK F (FF [.cell 2 2 true] 0) [.code b144] (S0.put 0 (.t x0)) := EE_run (fn := i144) (by kernel_rfl) rfl
theorem R145 (x0 : T) : EE F 145 [x0] [] = KK F (FF [.tmp 2] 0) [.code b145] (S0.put 0 (.t x0)) := EE_run (fn := i145) (by kernel_rfl) rfl
theorem R146 (x0 : T) : EE F 146 [x0] [] = KK F (FF [.tmp 2] 0) [.code b146] (S0.put 0 (.t x0)) := EE_run (fn := i146) (by kernel_rfl) rfl
theorem R147 (x0 : T) : EE F 147 [x0] [] = KK F (FF [.tmp 2] 0) [.code b147] (S0.put 0 (.t x0)) := EE_run (fn := i147) (by kernel_rfl) rfl
theorem R148 (x0 x1 : T) : EE F 148 [x0, x1] [] = KK F (FF [.tmp 4] 0) [.code b148] ((S0.put 0 (.t x0)).put 1 (.t x1)) := EE_run (fn := i148) (by kernel_rfl) rfl
theorem R149 (x0 : T) : EE F 149 [x0] [] = KK F (FF [.tmp 2] 0) [.code b149] (S0.put 0 (.t x0)) := EE_run (fn := i149) (by kernel_rfl) rfl
theorem R150 (x0 : T) : EE F 150 [x0] [] = KK F (FF [.tmp 2] 0) [.code b150] (S0.put 0 (.t x0)) := EE_run (fn := i150) (by kernel_rfl) rfl
theorem R151 (x0 : T) : EE F 151 [x0] [] = KK F (FF [.cell 2 6 true] 0) [.code b151] (S0.put 0 (.t x0)) := EE_run (fn := i151) (by kernel_rfl) rfl
theorem R152 (x0 : T) : EE F 152 [x0] [] = KK F (FF [.tmp 2] 0) [.code b152] (S0.put 0 (.t x0)) := EE_run (fn := i152) (by kernel_rfl) rfl
theorem R153 (x0 : T) : EE F 153 [x0] [] = KK F (FF [.tmp 2] 0) [.code b153] (S0.put 0 (.t x0)) := EE_run (fn := i153) (by kernel_rfl) rfl
theorem R154 (x0 x1 : T) : EE F 154 [x0, x1] [] = KK F (FF [.cell 4 3 true, .tmp 5] 0) [.code b154] ((S0.put 0 (.t x0)).put 1 (.t x1)) := EE_run (fn := i154) (by kernel_rfl) rfl
theorem R155 (x0 : T) : EE F 155 [x0] [] = KK F (FF [.cell 2 3 true] 0) [.code b155] (S0.put 0 (.t x0)) := EE_run (fn := i155) (by kernel_rfl) rfl
theorem R156 (x0 : T) : EE F 156 [x0] [] = KK F (FF [.tmp 2] 0) [.code b156] (S0.put 0 (.t x0)) := EE_run (fn := i156) (by kernel_rfl) rfl
theorem R157 (x0 x1 : T) : EE F 157 [x0, x1] [] = KK F (FF [.cell 4 2 true, .cell 5 2 true, .tmp 6] 0) [.code b157] ((S0.put 0 (.t x0)).put 1 (.t x1)) := EE_run (fn := i157) (by kernel_rfl) rfl
theorem R158 (x0 : T) : EE F 158 [x0] [] = KK F (FF [.cell 2 3 true] 0) [.code b158] (S0.put 0 (.t x0)) := EE_run (fn := i158) (by kernel_rfl) rfl
theorem R159 (x0 : T) : EE F 159 [x0] [] = KK F (FF [.tmp 2] 0) [.code b159] (S0.put 0 (.t x0)) := EE_run (fn := i159) (by kernel_rfl) rfl
theorem R160 (x0 x1 : T) : EE F 160 [x0, x1] [] = KK F (FF [.cell 4 2 true, .cell 5 2 true, .tmp 6] 0) [.code b160] ((S0.put 0 (.t x0)).put 1 (.t x1)) := EE_run (fn := i160) (by kernel_rfl) rfl
theorem R161 (x0 x1 : T) : EE F 161 [x0, x1] [] = KK F (FF [.tmp 4] 0) [.code b161] ((S0.put 0 (.t x0)).put 1 (.t x1)) := EE_run (fn := i161) (by kernel_rfl) rfl
theorem R162 (x0 x1 : T) : EE F 162 [x0, x1] [] = KK F (FF [.tmp 4] 0) [.code b162] ((S0.put 0 (.t x0)).put 1 (.t x1)) := EE_run (fn := i162) (by kernel_rfl) rfl
theorem R163 (x0 x1 : T) : EE F 163 [x0, x1] [] = KK F (FF [.cell 4 3 true, .tmp 5] 0) [.code b163] ((S0.put 0 (.t x0)).put 1 (.t x1)) := EE_run (fn := i163) (by kernel_rfl) rfl
theorem R164 (x0 x1 : T) : EE F 164 [x0, x1] [] = KK F (FF [.tmp 4] 0) [.code b164] ((S0.put 0 (.t x0)).put 1 (.t x1)) := EE_run (fn := i164) (by kernel_rfl) rfl
theorem R165 (x0 x1 : T) : EE F 165 [x0, x1] [] = KK F (FF [.tmp 4] 0) [.code b165] ((S0.put 0 (.t x0)).put 1 (.t x1)) := EE_run (fn := i165) (by kernel_rfl) rfl
theorem R166 (x0 x1 x2 : T) : EE F 166 [x0, x1, x2] [] = KK F (FF [.tmp 6, .tmp 7] 0) [.code b166] (((S0.put 0 (.t x0)).put 1 (.t x1)).put 2 (.t x2)) := EE_run (fn := i166) (by kernel_rfl) rfl
theorem R167 (x0 x1 : T) : EE F 167 [x0, x1] [] = KK F (FF [.tmp 4] 0) [.code b167] ((S0.put 0 (.t x0)).put 1 (.t x1)) := EE_run (fn := i167) (by kernel_rfl) rfl
theorem R168 (x0 : T) : EE F 168 [x0] [] = KK F (FF [.tmp 2] 0) [.code b168] (S0.put 0 (.t x0)) := EE_run (fn := i168) (by kernel_rfl) rfl
theorem R169 (x0 : T) : EE F 169 [x0] [] = KK F (FF [.tmp 2] 0) [.code b169] (S0.put 0 (.t x0)) := EE_run (fn := i169) (by kernel_rfl) rfl
theorem R170 (x0 : T) : EE F 170 [x0] [] = KK F (FF [.tmp 2] 0) [.code b170] (S0.put 0 (.t x0)) := EE_run (fn := i170) (by kernel_rfl) rfl
theorem R171 (x0 : T) : EE F 171 [x0] [] = KK F (FF [.tmp 2] 0) [.code b171] (S0.put 0 (.t x0)) := EE_run (fn := i171) (by kernel_rfl) rfl
theorem R172 (x0 : T) : EE F 172 [x0] [] = KK F (FF [.tmp 2, .tmp 3] 0) [.code b172] (S0.put 0 (.t x0)) := EE_run (fn := i172) (by kernel_rfl) rfl
theorem R173 (x0 x1 : T) : EE F 173 [x0, x1] [] = KK F (FF [.tmp 4] 0) [.code b173] ((S0.put 0 (.t x0)).put 1 (.t x1)) := EE_run (fn := i173) (by kernel_rfl) rfl
theorem R174 (x0 x1 : T) : EE F 174 [x0, x1] [] = KK F (FF [.cell 4 2 true, .tmp 5] 0) [.code b174] ((S0.put 0 (.t x0)).put 1 (.t x1)) := EE_run (fn := i174) (by kernel_rfl) rfl
theorem R175 (x0 x1 : T) : EE F 175 [x0, x1] [] = KK F (FF [.tmp 4] 0) [.code b175] ((S0.put 0 (.t x0)).put 1 (.t x1)) := EE_run (fn := i175) (by kernel_rfl) rfl
theorem R176 (x0 : T) : EE F 176 [x0] [] = KK F (FF [.tmp 2] 0) [.code b176] (S0.put 0 (.t x0)) := EE_run (fn := i176) (by kernel_rfl) rfl
theorem R177 (x0 : T) : EE F 177 [x0] [] = KK F (FF [.tmp 2] 0) [.code b177] (S0.put 0 (.t x0)) := EE_run (fn := i177) (by kernel_rfl) rfl
end Go.Proofs.YtbieglaagpogkaaV
