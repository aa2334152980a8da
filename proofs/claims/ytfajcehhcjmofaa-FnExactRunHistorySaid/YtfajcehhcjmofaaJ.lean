/- The table of functions, and that each stands for the program's. -/
import Derived.Test.YtfajcehhcjmofaaV27
import Derived.Test.YtfajcehhcjmofaaS3
import Derived.Test.YtfajcehhcjmofaaJ0
import Derived.Test.YtfajcehhcjmofaaProg
import Derived.KernelRfl
namespace Go.Proofs.YtfajcehhcjmofaaV
open Go
def tab:List (Nat×IFn):=[(4,i4),(13,i13),(16,i16),(17,i17),(18,i18),(19,i19),(20,i20),(22,i22),(23,i23),(27,i27),(34,i34),(37,i37),(43,i43),(45,i45),(46,i46),(47,i47),(48,i48),(49,i49),(50,i50),(52,i52),(57,i57),(58,i58),(59,i59),(60,i60),(74,i74),(80,i80),(81,i81),(82,i82),(83,i83),(84,i84),(85,i85),(86,i86),(87,i87),(88,i88),(89,i89),(90,i90),(91,i91),(99,i99),(100,i100),(101,i101),(102,i102),(114,i114),(115,i115),(116,i116),(117,i117),(118,i118),(127,i127),(4117,ZHD),(4147,ZGY)]
def F (f:Nat):Option IFn:=tab.lookup f
theorem ZHN:tab.all (fun q=>Zfx Zi Try.prog q.1 q.2)=true:=by kernel_rfl
theorem ZGO {l:List (Nat×IFn)} {p:Nat→IFn→Prop} (h:∀ q,q∈l→p q.1 q.2) {f:Nat} {i:IFn} (hf:l.lookup f=some i):p f i:=by
 induction l with
 | nil=>simp at hf
 | cons q l ih=>
  obtain ⟨g,j⟩:=q
  simp only[List.lookup_cons] at hf
  split at hf
  ·rename_i he
   simp only[beq_iff_eq] at he
   cases hf
   subst he
   exact h (f,i) (List.mem_cons_self ..)
  ·exact ih (fun q hq=>h q (List.mem_cons_of_mem _ hq)) hf
theorem hF (f:Nat) (i:IFn) (hf:F f=some i):Zfx Zi Try.prog f i=true:=
 ZGO (p:=fun f i=>Zfx Zi Try.prog f i=true) (fun q hq=>List.all_eq_true.1 ZHN q hq) hf
theorem ZG3:Zad Try.prog (EE F):=Zhw (Zhv (by kernel_rfl)) hF
theorem R4 (x0:T):EE F 4 [x0] []=KK F (FF [.tmp 2] 0) [.code b4] (S0.put 0 (.t x0)):=EE_run (fn:=i4) (by kernel_rfl) rfl
theorem R13 (x0 x1:T):EE F 13 [x0,x1] []=KK F (FF [.tmp 4] 0) [.code b13] ((S0.put 0 (.t x0)).put 1 (.t x1)):=EE_run (fn:=i13) (by kernel_rfl) rfl
theorem R16 (x0 x1:T):EE F 16 [x0,x1] []=KK F (FF [.tmp 4] 0) [.code b16] ((S0.put 0 (.t x0)).put 1 (.t x1)):=EE_run (fn:=i16) (by kernel_rfl) rfl
theorem R17 (x0 x1:T):EE F 17 [x0,x1] []=KK F (FF [.tmp 4] 0) [.code b17] ((S0.put 0 (.t x0)).put 1 (.t x1)):=EE_run (fn:=i17) (by kernel_rfl) rfl
theorem R18 (x0 x1:T):EE F 18 [x0,x1] []=KK F (FF [.tmp 4] 0) [.code b18] ((S0.put 0 (.t x0)).put 1 (.t x1)):=EE_run (fn:=i18) (by kernel_rfl) rfl
theorem R19 (x0:T):EE F 19 [x0] []=KK F (FF [.tmpd 2,.tmpd 3] 0) [.code b19] (S0.put 0 (.t x0)):=EE_run (fn:=i19) (by kernel_rfl) rfl
theorem R20 (x0:T):EE F 20 [x0] []=KK F (FF [.tmp 2] 0) [.code b20] (S0.put 0 (.t x0)):=EE_run (fn:=i20) (by kernel_rfl) rfl
theorem R22 (x0 x1:T):EE F 22 [x0,x1] []=KK F (FF [.tmp 4] 0) [.code b22] ((S0.put 0 (.t x0)).put 1 (.t x1)):=EE_run (fn:=i22) (by kernel_rfl) rfl
theorem R23 (x0 x1:T):EE F 23 [x0,x1] []=KK F (FF [.tmp 4] 0) [.code b23] ((S0.put 0 (.t x0)).put 1 (.t x1)):=EE_run (fn:=i23) (by kernel_rfl) rfl
theorem R27 (x0:T):EE F 27 [x0] []=KK F (FF [.tmp 2] 0) [.code b27] (S0.put 0 (.t x0)):=EE_run (fn:=i27) (by kernel_rfl) rfl
theorem R34 (x0 x1 x2:T):EE F 34 [x0,x1,x2] []=KK F (FF [.tmp 6] 0) [.code b34] (((S0.put 0 (.t x0)).put 1 (.t x1)).put 2 (.t x2)):=EE_run (fn:=i34) (by kernel_rfl) rfl
theorem R37 (x0:T):EE F 37 [x0] []=KK F (FF [.tmp 2] 0) [.code b37] (S0.put 0 (.t x0)):=EE_run (fn:=i37) (by kernel_rfl) rfl
theorem R43 (x0 x1:T):EE F 43 [x0,x1] []=KK F (FF [.tmp 4] 0) [.code b43] ((S0.put 0 (.t x0)).put 1 (.t x1)):=EE_run (fn:=i43) (by kernel_rfl) rfl
theorem R45 (x0:T):EE F 45 [x0] []=KK F (FF [.tmp 2] 0) [.code b45] (S0.put 0 (.t x0)):=EE_run (fn:=i45) (by kernel_rfl) rfl
theorem R46 (x0 x1:T):EE F 46 [x0,x1] []=KK F (FF [.tmp 4] 0) [.code b46] ((S0.put 0 (.t x0)).put 1 (.t x1)):=EE_run (fn:=i46) (by kernel_rfl) rfl
theorem R47 (x0:T):EE F 47 [x0] []=KK F (FF [.tmp 2] 0) [.code b47] (S0.put 0 (.t x0)):=EE_run (fn:=i47) (by kernel_rfl) rfl
theorem R48 (x0 x1:T):EE F 48 [x0,x1] []=KK F (FF [.tmpd 4,.tmpd 5] 0) [.code b48] ((S0.put 0 (.t x0)).put 1 (.t x1)):=EE_run (fn:=i48) (by kernel_rfl) rfl
theorem R49 (x0:T):EE F 49 [x0] []=KK F (FF [.cell 2 7 true] 0) [.code b49] (S0.put 0 (.t x0)):=EE_run (fn:=i49) (by kernel_rfl) rfl
theorem R50 (x0:T):EE F 50 [x0] []=KK F (FF [.tmp 2] 0) [.code b50] (S0.put 0 (.t x0)):=EE_run (fn:=i50) (by kernel_rfl) rfl
theorem R52 (x0 x1:T):EE F 52 [x0,x1] []=KK F (FF [.tmp 4] 0) [.code b52] ((S0.put 0 (.t x0)).put 1 (.t x1)):=EE_run (fn:=i52) (by kernel_rfl) rfl
theorem R57 (x0:T):EE F 57 [x0] []=KK F (FF [.tmp 2] 0) [.code b57] (S0.put 0 (.t x0)):=EE_run (fn:=i57) (by kernel_rfl) rfl
theorem R58 (x0:T):EE F 58 [x0] []=KK F (FF [.tmp 2] 0) [.code b58] (S0.put 0 (.t x0)):=EE_run (fn:=i58) (by kernel_rfl) rfl
theorem R59 (x0 x1:T):EE F 59 [x0,x1] []=KK F (FF [.tmp 4,.tmp 5] 0) [.code b59] ((S0.put 0 (.t x0)).put 1 (.t x1)):=EE_run (fn:=i59) (by kernel_rfl) rfl
theorem R60 (x0:T):EE F 60 [x0] []=KK F (FF [.tmp 2] 0) [.code b60] (S0.put 0 (.t x0)):=EE_run (fn:=i60) (by kernel_rfl) rfl
theorem R74 (x0:T):EE F 74 [x0] []=KK F (FF [.tmp 2] 0) [.code b74] (S0.put 0 (.t x0)):=EE_run (fn:=i74) (by kernel_rfl) rfl
theorem R80 (x0 x1:T):EE F 80 [x0,x1] []=KK F (FF [.tmp 4] 0) [.code b80] ((S0.put 0 (.t x0)).put 1 (.t x1)):=EE_run (fn:=i80) (by kernel_rfl) rfl
theorem R81 (x0:T):EE F 81 [x0] []=KK F (FF [.tmp 2] 0) [.code b81] (S0.put 0 (.t x0)):=EE_run (fn:=i81) (by kernel_rfl) rfl
theorem R82 (x0 x1:T):EE F 82 [x0,x1] []=KK F (FF [.tmp 4] 0) [.code b82] ((S0.put 0 (.t x0)).put 1 (.t x1)):=EE_run (fn:=i82) (by kernel_rfl) rfl
theorem R83 (x0 x1:T):EE F 83 [x0,x1] []=KK F (FF [.tmp 4,.tmp 5] 0) [.code b83] ((S0.put 0 (.t x0)).put 1 (.t x1)):=EE_run (fn:=i83) (by kernel_rfl) rfl
theorem R84 (x0 x1 x2:T):EE F 84 [x0,x1,x2] []=KK F (FF [.tmp 6,.tmp 7] 0) [.code b84] (((S0.put 0 (.t x0)).put 1 (.t x1)).put 2 (.t x2)):=EE_run (fn:=i84) (by kernel_rfl) rfl
theorem R85 (x0:T):EE F 85 [x0] []=KK F (FF [.cell 2 6 true] 0) [.code b85] (S0.put 0 (.t x0)):=EE_run (fn:=i85) (by kernel_rfl) rfl
theorem R86 (x0:T):EE F 86 [x0] []=KK F (FF [.tmp 2] 0) [.code b86] (S0.put 0 (.t x0)):=EE_run (fn:=i86) (by kernel_rfl) rfl
theorem R87 (x0:T):EE F 87 [x0] []=KK F (FF [.tmp 2] 0) [.code b87] (S0.put 0 (.t x0)):=EE_run (fn:=i87) (by kernel_rfl) rfl
theorem R88 (x0 x1:T):EE F 88 [x0,x1] []=KK F (FF [.tmp 4] 0) [.code b88] ((S0.put 0 (.t x0)).put 1 (.t x1)):=EE_run (fn:=i88) (by kernel_rfl) rfl
theorem R89 (x0 x1:T):EE F 89 [x0,x1] []=KK F (FF [.tmp 4,.tmp 5] 0) [.code b89] ((S0.put 0 (.t x0)).put 1 (.t x1)):=EE_run (fn:=i89) (by kernel_rfl) rfl
theorem R90 (x0 x1 x2:T):EE F 90 [x0,x1,x2] []=KK F (FF [.tmp 6,.tmp 7] 0) [.code b90] (((S0.put 0 (.t x0)).put 1 (.t x1)).put 2 (.t x2)):=EE_run (fn:=i90) (by kernel_rfl) rfl
theorem R91 (x0 x1:T):EE F 91 [x0,x1] []=KK F (FF [.tmp 4] 0) [.code b91] ((S0.put 0 (.t x0)).put 1 (.t x1)):=EE_run (fn:=i91) (by kernel_rfl) rfl
theorem R99 (x0:T):EE F 99 [x0] []=KK F (FF [.tmp 2] 0) [.code b99] (S0.put 0 (.t x0)):=EE_run (fn:=i99) (by kernel_rfl) rfl
theorem R100 (x0 x1 x2:T):EE F 100 [x0,x1,x2] []=KK F (FF [.tmp 6,.tmp 7] 0) [.code b100] (((S0.put 0 (.t x0)).put 1 (.t x1)).put 2 (.t x2)):=EE_run (fn:=i100) (by kernel_rfl) rfl
theorem R101 (x0 x1:T):EE F 101 [x0,x1] []=KK F (FF [.tmp 4] 0) [.code b101] ((S0.put 0 (.t x0)).put 1 (.t x1)):=EE_run (fn:=i101) (by kernel_rfl) rfl
theorem R102 (x0 x1:T):EE F 102 [x0,x1] []=KK F (FF [.tmp 4] 0) [.code b102] ((S0.put 0 (.t x0)).put 1 (.t x1)):=EE_run (fn:=i102) (by kernel_rfl) rfl
theorem R114 (x0 x1:T):EE F 114 [x0,x1] []=KK F (FF [.tmp 4] 0) [.code b114] ((S0.put 0 (.t x0)).put 1 (.t x1)):=EE_run (fn:=i114) (by kernel_rfl) rfl
theorem R115 (x0 x1:T):EE F 115 [x0,x1] []=KK F (FF [.tmp 4] 0) [.code b115] ((S0.put 0 (.t x0)).put 1 (.t x1)):=EE_run (fn:=i115) (by kernel_rfl) rfl
theorem R116 (x0:T):EE F 116 [x0] []=KK F (FF [.cell 2 4 true] 0) [.code b116] (S0.put 0 (.t x0)):=EE_run (fn:=i116) (by kernel_rfl) rfl
theorem R117 (x0 x1 x2 x3:T):EE F 117 [x0,x1,x2,x3] []=KK F (FF [.tmp 8] 0) [.code b117] ((((S0.put 0 (.t x0)).put 1 (.t x1)).put 2 (.t x2)).put 3 (.t x3)):=EE_run (fn:=i117) (by kernel_rfl) rfl
theorem R118 (x0 x1:T):EE F 118 [x0,x1] []=KK F (FF [.tmp 4] 0) [.code b118] ((S0.put 0 (.t x0)).put 1 (.t x1)):=EE_run (fn:=i118) (by kernel_rfl) rfl
theorem R127 (x0:T):EE F 127 [x0] []=KK F (FF [.tmp 2] 0) [.code b127] (S0.put 0 (.t x0)):=EE_run (fn:=i127) (by kernel_rfl) rfl
theorem ZHO (x0:T):EE F 4117 [x0] []=KK F (FF [.tmp 2,.tmp 3] 0) [.code ZHd] (S0.put 0 (.t x0)):=EE_run (fn:=ZHD) (by kernel_rfl) rfl
theorem R4147 (x0 x1 x2:T):EE F 4147 [x0,x1,x2] []=KK F (FF [.tmp 6,.tmp 7] 0) [.code ZHe] (((S0.put 0 (.t x0)).put 1 (.t x1)).put 2 (.t x2)):=Zjl (fn:=ZGY) (by kernel_rfl) rfl
end Go.Proofs.YtfajcehhcjmofaaV
