/- The table of functions, and that each stands for the program's. -/
import Derived.Test.YtfajcehhcjmofaaV27
import Derived.Test.YtfajcehhcjmofaaS3
import Derived.Test.YtfajcehhcjmofaaJ0
import Derived.Test.YtfajcehhcjmofaaProg
import Derived.KernelRfl
namespace Go.Proofs.YtfajcehhcjmofaaV
open Go
def tab:List (Nat×IFn):=[(3,i3),(7,i7),(8,i8),(9,i9),(10,i10),(11,i11),(12,i12),(13,i13),(14,i14),(15,i15),(16,i16),(17,i17),(27,i27),(32,i32),(33,i33),(34,i34),(35,i35),(36,i36),(37,i37),(38,i38),(39,i39),(40,i40),(41,i41),(42,i42),(43,i43),(44,i44),(45,i45),(57,i57),(58,i58),(73,i73),(74,i74),(75,i75),(76,i76),(77,i77),(78,i78),(79,i79),(99,i99),(112,i112),(113,i113)]
def F (f:Nat):Option IFn:=tab.lookup f
theorem ZHE:tab.all (fun q=>Zfx Zi Try.prog q.1 q.2)=true:=by kernel_rfl
theorem ZGB {l:List (Nat×IFn)} {p:Nat→IFn→Prop} (h:∀ q,q∈l→p q.1 q.2) {f:Nat} {i:IFn} (hf:l.lookup f=some i):p f i:=by
 induction l with
 | nil=>simp at hf
 | cons q l ih=>
  obtain ⟨g,j⟩:=q
  simp only[List.lookup_cons] at hf
  split at hf
  ·rename_i he
   simp only[beq_iff_eq] at he
   cases hf
   subst he
   exact h (f,i) (List.mem_cons_self ..)
  ·exact ih (fun q hq=>h q (List.mem_cons_of_mem _ hq)) hf
theorem hF (f:Nat) (i:IFn) (hf:F f=some i):Zfx Zi Try.prog f i=true:=
 ZGB (p:=fun f i=>Zfx Zi Try.prog f i=true) (fun q hq=>List.all_eq_true.1 ZHE q hq) hf
theorem ZGS:Zad Try.prog (EE F):=Zhw (Zhv (by kernel_rfl)) hF
theorem R3 (x0 x1 x2:T):EE F 3 [x0,x1,x2] []=KK F (FF [.tmp 6] 0) [.code b3] (((S0.put 0 (.t x0)).put 1 (.t x1)).put 2 (.t x2)):=EE_run (fn:=i3) (by kernel_rfl) rfl
theorem R7 (x0 x1:T):EE F 7 [x0,x1] []=KK F (FF [.tmp 4] 0) [.code b7] ((S0.put 0 (.t x0)).put 1 (.t x1)):=EE_run (fn:=i7) (by kernel_rfl) rfl
theorem R8 (x0 x1:T):EE F 8 [x0,x1] []=KK F (FF [.tmp 4] 0) [.code b8] ((S0.put 0 (.t x0)).put 1 (.t x1)):=EE_run (fn:=i8) (by kernel_rfl) rfl
theorem R9 (x0 x1 x2:T):EE F 9 [x0,x1,x2] []=KK F (FF [.tmp 6,.tmp 7] 0) [.code b9] (((S0.put 0 (.t x0)).put 1 (.t x1)).put 2 (.t x2)):=EE_run (fn:=i9) (by kernel_rfl) rfl
theorem R10 (x0:T):EE F 10 [x0] []=KK F (FF [.tmp 2] 0) [.code b10] (S0.put 0 (.t x0)):=EE_run (fn:=i10) (by kernel_rfl) rfl
theorem R11 (x0:T):EE F 11 [x0] []=KK F (FF [.cell 2 2 true] 0) [.code b11] (S0.put 0 (.t x0)):=EE_run (fn:=i11) (by kernel_rfl) rfl
theorem R12 (x0 x1 x2:T):EE F 12 [x0,x1,x2] []=KK F (FF [.tmp 6,.tmp 7] 0) [.code b12] (((S0.put 0 (.t x0)).put 1 (.t x1)).put 2 (.t x2)):=EE_run (fn:=i12) (by kernel_rfl) rfl
theorem R13 (x0 x1:T):EE F 13 [x0,x1] []=KK F (FF [.tmp 4] 0) [.code b13] ((S0.put 0 (.t x0)).put 1 (.t x1)):=EE_run (fn:=i13) (by kernel_rfl) rfl
theorem R14 (x0 x1:T):EE F 14 [x0,x1] []=KK F (FF [.tmp 4] 0) [.code b14] ((S0.put 0 (.t x0)).put 1 (.t x1)):=EE_run (fn:=i14) (by kernel_rfl) rfl
theorem R15 (x0 x1:T):EE F 15 [x0,x1] []=KK F (FF [.tmp 4] 0) [.code b15] ((S0.put 0 (.t x0)).put 1 (.t x1)):=EE_run (fn:=i15) (by kernel_rfl) rfl
theorem R16 (x0 x1:T):EE F 16 [x0,x1] []=KK F (FF [.tmp 4] 0) [.code b16] ((S0.put 0 (.t x0)).put 1 (.t x1)):=EE_run (fn:=i16) (by kernel_rfl) rfl
theorem R17 (x0 x1:T):EE F 17 [x0,x1] []=KK F (FF [.tmp 4] 0) [.code b17] ((S0.put 0 (.t x0)).put 1 (.t x1)):=EE_run (fn:=i17) (by kernel_rfl) rfl
theorem R27 (x0:T):EE F 27 [x0] []=KK F (FF [.tmp 2] 0) [.code b27] (S0.put 0 (.t x0)):=EE_run (fn:=i27) (by kernel_rfl) rfl
theorem R32 (x0 x1:T):EE F 32 [x0,x1] []=KK F (FF [.tmp 4] 0) [.code b32] ((S0.put 0 (.t x0)).put 1 (.t x1)):=EE_run (fn:=i32) (by kernel_rfl) rfl
theorem R33 (x0:T):EE F 33 [x0] []=KK F (FF [.tmp 2] 0) [.code b33] (S0.put 0 (.t x0)):=EE_run (fn:=i33) (by kernel_rfl) rfl
theorem R34 (x0 x1 x2:T):EE F 34 [x0,x1,x2] []=KK F (FF [.tmp 6] 0) [.code b34] (((S0.put 0 (.t x0)).put 1 (.t x1)).put 2 (.t x2)):=EE_run (fn:=i34) (by kernel_rfl) rfl
theorem R35 (x0:T):EE F 35 [x0] []=KK F (FF [.tmp 2] 0) [.code b35] (S0.put 0 (.t x0)):=EE_run (fn:=i35) (by kernel_rfl) rfl
theorem R36 (x0 x1:T):EE F 36 [x0,x1] []=KK F (FF [.cell 4 2 true,.tmp 5] 0) [.code b36] ((S0.put 0 (.t x0)).put 1 (.t x1)):=EE_run (fn:=i36) (by kernel_rfl) rfl
theorem R37 (x0:T):EE F 37 [x0] []=KK F (FF [.tmp 2] 0) [.code b37] (S0.put 0 (.t x0)):=EE_run (fn:=i37) (by kernel_rfl) rfl
theorem R38 (x0 x1 x2:T):EE F 38 [x0,x1,x2] []=KK F (FF [.tmp 6] 0) [.code b38] (((S0.put 0 (.t x0)).put 1 (.t x1)).put 2 (.t x2)):=EE_run (fn:=i38) (by kernel_rfl) rfl
theorem R39 (x0:T):EE F 39 [x0] []=KK F (FF [.cell 2 3 true] 0) [.code b39] (S0.put 0 (.t x0)):=EE_run (fn:=i39) (by kernel_rfl) rfl
theorem R40 (x0:T):EE F 40 [x0] []=KK F (FF [.tmp 2] 0) [.code b40] (S0.put 0 (.t x0)):=EE_run (fn:=i40) (by kernel_rfl) rfl
theorem R41 (x0:T):EE F 41 [x0] []=KK F (FF [.tmp 2] 0) [.code b41] (S0.put 0 (.t x0)):=EE_run (fn:=i41) (by kernel_rfl) rfl
theorem R42 (x0 x1:T):EE F 42 [x0,x1] []=KK F (FF [.cell 4 2 true,.tmp 5] 0) [.code b42] ((S0.put 0 (.t x0)).put 1 (.t x1)):=EE_run (fn:=i42) (by kernel_rfl) rfl
theorem R43 (x0 x1:T):EE F 43 [x0,x1] []=KK F (FF [.tmp 4] 0) [.code b43] ((S0.put 0 (.t x0)).put 1 (.t x1)):=EE_run (fn:=i43) (by kernel_rfl) rfl
theorem R44 (x0 x1:T):EE F 44 [x0,x1] []=KK F (FF [.tmp 4] 0) [.code b44] ((S0.put 0 (.t x0)).put 1 (.t x1)):=EE_run (fn:=i44) (by kernel_rfl) rfl
theorem R45 (x0:T):EE F 45 [x0] []=KK F (FF [.tmp 2] 0) [.code b45] (S0.put 0 (.t x0)):=EE_run (fn:=i45) (by kernel_rfl) rfl
theorem R57 (x0:T):EE F 57 [x0] []=KK F (FF [.tmp 2] 0) [.code b57] (S0.put 0 (.t x0)):=EE_run (fn:=i57) (by kernel_rfl) rfl
theorem R58 (x0:T):EE F 58 [x0] []=KK F (FF [.tmp 2] 0) [.code b58] (S0.put 0 (.t x0)):=EE_run (fn:=i58) (by kernel_rfl) rfl
theorem R73 (x0 x1:T):EE F 73 [x0,x1] []=KK F (FF [.tmp 4] 0) [.code b73] ((S0.put 0 (.t x0)).put 1 (.t x1)):=EE_run (fn:=i73) (by kernel_rfl) rfl
theorem R74 (x0:T):EE F 74 [x0] []=KK F (FF [.tmp 2] 0) [.code b74] (S0.put 0 (.t x0)):=EE_run (fn:=i74) (by kernel_rfl) rfl
theorem R75 (x0 x1:T):EE F 75 [x0,x1] []=KK F (FF [.tmp 4] 0) [.code b75] ((S0.put 0 (.t x0)).put 1 (.t x1)):=EE_run (fn:=i75) (by kernel_rfl) rfl
theorem R76 (x0:T):EE F 76 [x0] []=KK F (FF [.tmp 2] 0) [.code b76] (S0.put 0 (.t x0)):=EE_run (fn:=i76) (by kernel_rfl) rfl
theorem R77 (x0:T):EE F 77 [x0] []=KK F (FF [.tmp 2] 0) [.code b77] (S0.put 0 (.t x0)):=EE_run (fn:=i77) (by kernel_rfl) rfl
theorem R78 (x0 x1:T):EE F 78 [x0,x1] []=KK F (FF [.tmp 4] 0) [.code b78] ((S0.put 0 (.t x0)).put 1 (.t x1)):=EE_run (fn:=i78) (by kernel_rfl) rfl
theorem R79 (x0 x1:T):EE F 79 [x0,x1] []=KK F (FF [.tmp 4] 0) [.code b79] ((S0.put 0 (.t x0)).put 1 (.t x1)):=EE_run (fn:=i79) (by kernel_rfl) rfl
theorem R99 (x0:T):EE F 99 [x0] []=KK F (FF [.tmp 2] 0) [.code b99] (S0.put 0 (.t x0)):=EE_run (fn:=i99) (by kernel_rfl) rfl
theorem R112 (x0 x1:T):EE F 112 [x0,x1] []=KK F (FF [.tmp 4] 0) [.code b112] ((S0.put 0 (.t x0)).put 1 (.t x1)):=EE_run (fn:=i112) (by kernel_rfl) rfl
theorem R113 (x0:T):EE F 113 [x0] []=KK F (FF [.cell 2 2 true] 0) [.code b113] (S0.put 0 (.t x0)):=EE_run (fn:=i113) (by kernel_rfl) rfl
end Go.Proofs.YtfajcehhcjmofaaV
