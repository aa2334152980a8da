/- The table of functions, and that each stands for the program's. -/
import Derived.Test.YtfajcehhcjmofaaV27
import Derived.Test.YtfajcehhcjmofaaS3
import Derived.Test.YtfajcehhcjmofaaJ0
import Derived.Test.YtfajcehhcjmofaaProg
import Derived.KernelRfl
namespace Go.Proofs.YtfajcehhcjmofaaV
open Go
def tab:List (Nat×IFn):=[(6,i6),(26,i26),(29,i29),(30,i30),(31,i31),(33,i33),(34,i34),(36,i36),(37,i37),(47,i47),(50,i50),(53,i53),(55,i55),(56,i56),(57,i57),(58,i58),(61,i61),(62,i62),(63,i63),(64,i64),(65,i65),(66,i66),(67,i67),(68,i68),(69,i69),(70,i70),(71,i71),(72,i72),(74,i74),(75,i75),(81,i81),(86,i86),(87,i87),(97,i97),(98,i98),(99,i99),(103,i103),(104,i104),(105,i105),(106,i106),(107,i107),(108,i108),(109,i109),(110,i110),(111,i111),(119,i119),(120,i120),(125,i125),(126,i126),(128,i128),(129,i129),(130,i130),(131,i131),(132,i132),(133,i133),(134,i134),(135,i135),(136,i136),(137,i137),(138,i138),(139,i139),(140,i140),(141,i141),(142,i142),(143,i143),(144,i144),(146,i146),(147,i147),(148,i148),(149,i149),(150,i150),(151,i151),(152,i152),(153,i153),(154,i154),(155,i155),(156,i156)]
def F (f:Nat):Option IFn:=tab.lookup f
theorem ZIW:tab.all (fun q=>Zfx Zi Try.prog q.1 q.2)=true:=by kernel_rfl
theorem ZH3 {l:List (Nat×IFn)} {p:Nat→IFn→Prop} (h:∀ q,q∈l→p q.1 q.2) {f:Nat} {i:IFn} (hf:l.lookup f=some i):p f i:=by
 induction l with
 | nil=>simp at hf
 | cons q l ih=>
  obtain ⟨g,j⟩:=q
  simp only[List.lookup_cons] at hf
  split at hf
  ·rename_i he
   simp only[beq_iff_eq] at he
   cases hf
   subst he
   exact h (f,i) (List.mem_cons_self ..)
  ·exact ih (fun q hq=>h q (List.mem_cons_of_mem _ hq)) hf
theorem hF (f:Nat) (i:IFn) (hf:F f=some i):Zfx Zi Try.prog f i=true:=
 ZH3 (p:=fun f i=>Zfx Zi Try.prog f i=true) (fun q hq=>List.all_eq_true.1 ZIW q hq) hf
theorem ZIl:Zad Try.prog (EE F):=Zhw (Zhv (by kernel_rfl)) hF
theorem R6 (x0:T):EE F 6 [x0] []=KK F (FF [.tmp 2] 0) [.code b6] (S0.put 0 (.t x0)):=EE_run (fn:=i6) (by kernel_rfl) rfl
theorem R26:EE F 26 [] []=KK F (FF [.tmp 0] 0) [.code b26] S0:=EE_run (fn:=i26) (by kernel_rfl) rfl
theorem R29 (x0:T):EE F 29 [x0] []=KK F (FF [.celld 2 24 true] 0) [.code b29] (S0.put 0 (.t x0)):=EE_run (fn:=i29) (by kernel_rfl) rfl
theorem R30 (x0:T):EE F 30 [x0] []=KK F (FF [.tmp 2] 0) [.code b30] (S0.put 0 (.t x0)):=EE_run (fn:=i30) (by kernel_rfl) rfl
theorem R31 (x0:T):EE F 31 [x0] []=KK F (FF [.tmp 2] 0) [.code b31] (S0.put 0 (.t x0)):=EE_run (fn:=i31) (by kernel_rfl) rfl
theorem R33 (x0:T):EE F 33 [x0] []=KK F (FF [.tmp 2] 0) [.code b33] (S0.put 0 (.t x0)):=EE_run (fn:=i33) (by kernel_rfl) rfl
theorem R34 (x0 x1 x2:T):EE F 34 [x0,x1,x2] []=KK F (FF [.tmp 6] 0) [.code b34] (((S0.put 0 (.t x0)).put 1 (.t x1)).put 2 (.t x2)):=EE_run (fn:=i34) (by kernel_rfl) rfl
theorem R36 (x0 x1:T):EE F 36 [x0,x1] []=KK F (FF [.cell 4 2 true,.tmp 5] 0) [.code b36] ((S0.put 0 (.t x0)).put 1 (.t x1)):=EE_run (fn:=i36) (by kernel_rfl) rfl
theorem R37 (x0:T):EE F 37 [x0] []=KK F (FF [.tmp 2] 0) [.code b37] (S0.put 0 (.t x0)):=EE_run (fn:=i37) (by kernel_rfl) rfl
theorem R47 (x0:T):EE F 47 [x0] []=KK F (FF [.tmp 2] 0) [.code b47] (S0.put 0 (.t x0)):=EE_run (fn:=i47) (by kernel_rfl) rfl
theorem R50 (x0:T):EE F 50 [x0] []=KK F (FF [.tmp 2] 0) [.code b50] (S0.put 0 (.t x0)):=EE_run (fn:=i50) (by kernel_rfl) rfl
theorem R53 (x0:T):EE F 53 [x0] []=KK F (FF [.tmp 2] 0) [.code b53] (S0.put 0 (.t x0)):=EE_run (fn:=i53) (by kernel_rfl) rfl
theorem R55 (x0 x1:T):EE F 55 [x0,x1] []=KK F (FF [.tmp 4] 0) [.code b55] ((S0.put 0 (.t x0)).put 1 (.t x1)):=EE_run (fn:=i55) (by kernel_rfl) rfl
theorem R56 (x0:T):EE F 56 [x0] []=KK F (FF [.tmp 2] 0) [.code b56] (S0.put 0 (.t x0)):=EE_run (fn:=i56) (by kernel_rfl) rfl
theorem R57 (x0:T):EE F 57 [x0] []=KK F (FF [.tmp 2] 0) [.code b57] (S0.put 0 (.t x0)):=EE_run (fn:=i57) (by kernel_rfl) rfl
theorem R58 (x0:T):EE F 58 [x0] []=KK F (FF [.tmp 2] 0) [.code b58] (S0.put 0 (.t x0)):=EE_run (fn:=i58) (by kernel_rfl) rfl
theorem R61 (x0 x1 x2:T):EE F 61 [x0,x1,x2] []=KK F (FF [.celld 6 24 true] 0) [.code b61] (((S0.put 0 (.t x0)).put 1 (.t x1)).put 2 (.t x2)):=EE_run (fn:=i61) (by kernel_rfl) rfl
theorem R62 (x0:T):EE F 62 [x0] []=KK F (FF [.celld 2 12 true] 0) [.code b62] (S0.put 0 (.t x0)):=EE_run (fn:=i62) (by kernel_rfl) rfl
theorem R63 (x0:T):EE F 63 [x0] []=KK F (FF [.tmpd 2] 0) [.code b63] (S0.put 0 (.t x0)):=EE_run (fn:=i63) (by kernel_rfl) rfl
theorem R64 (x0:T):EE F 64 [x0] []=KK F (FF [.tmp 2] 0) [.code b64] (S0.put 0 (.t x0)):=EE_run (fn:=i64) (by kernel_rfl) rfl
theorem R65 (x0:T):EE F 65 [x0] []=KK F (FF [.tmp 2] 0) [.code b65] (S0.put 0 (.t x0)):=EE_run (fn:=i65) (by kernel_rfl) rfl
theorem R66 (x0:T):EE F 66 [x0] []=KK F (FF [.tmp 2] 0) [.code b66] (S0.put 0 (.t x0)):=EE_run (fn:=i66) (by kernel_rfl) rfl
theorem R67 (x0:T):EE F 67 [x0] []=KK F (FF [.tmp 2] 0) [.code b67] (S0.put 0 (.t x0)):=EE_run (fn:=i67) (by kernel_rfl) rfl
theorem R68 (x0:T):EE F 68 [x0] []=KK F (FF [.tmp 2] 0) [.code b68] (S0.put 0 (.t x0)):=EE_run (fn:=i68) (by kernel_rfl) rfl
theorem R69 (x0:T):EE F 69 [x0] []=KK F (FF [.tmp 2] 0) [.code b69] (S0.put 0 (.t x0)):=EE_run (fn:=i69) (by kernel_rfl) rfl
theorem R70 (x0:T):EE F 70 [x0] []=KK F (FF [.tmp 2] 0) [.code b70] (S0.put 0 (.t x0)):=EE_run (fn:=i70) (by kernel_rfl) rfl
theorem R71 (x0:T):EE F 71 [x0] []=KK F (FF [.tmp 2] 0) [.code b71] (S0.put 0 (.t x0)):=EE_run (fn:=i71) (by kernel_rfl) rfl
theorem R72 (x0:T):EE F 72 [x0] []=KK F (FF [.tmp 2] 0) [.code b72] (S0.put 0 (.t x0)):=EE_run (fn:=i72) (by kernel_rfl) rfl
theorem R74 (x0:T):EE F 74 [x0] []=KK F (FF [.tmp 2] 0) [.code b74] (S0.put 0 (.t x0)):=EE_run (fn:=i74) (by kernel_rfl) rfl
theorem R75 (x0 x1:T):EE F 75 [x0,x1] []=KK F (FF [.tmp 4] 0) [.code b75] ((S0.put 0 (.t x0)).put 1 (.t x1)):=EE_run (fn:=i75) (by kernel_rfl) rfl
theorem R81 (x0:T):EE F 81 [x0] []=KK F (FF [.tmp 2] 0) [.code b81] (S0.put 0 (.t x0)):=EE_run (fn:=i81) (by kernel_rfl) rfl
theorem R86 (x0:T):EE F 86 [x0] []=KK F (FF [.tmp 2] 0) [.code b86] (S0.put 0 (.t x0)):=EE_run (fn:=i86) (by kernel_rfl) rfl
theorem R87 (x0:T):EE F 87 [x0] []=KK F (FF [.tmp 2] 0) [.code b87] (S0.put 0 (.t x0)):=EE_run (fn:=i87) (by kernel_rfl) rfl
theorem R97 (x0 x1:T):EE F 97 [x0,x1] []=KK F (FF [.tmp 4] 0) [.code b97] ((S0.put 0 (.t x0)).put 1 (.t x1)):=EE_run (fn:=i97) (by kernel_rfl) rfl
theorem R98 (x0 x1:T):EE F 98 [x0,x1] []=KK F (FF [.tmp 4] 0) [.code b98] ((S0.put 0 (.t x0)).put 1 (.t x1)):=EE_run (fn:=i98) (by kernel_rfl) rfl
theorem R99 (x0:T):EE F 99 [x0] []=KK F (FF [.tmp 2] 0) [.code b99] (S0.put 0 (.t x0)):=EE_run (fn:=i99) (by kernel_rfl) rfl
theorem R103 (x0:T):EE F 103 [x0] []=KK F (FF [.tmp 2] 0) [.code b103] (S0.put 0 (.t x0)):=EE_run (fn:=i103) (by kernel_rfl) rfl
theorem R104 (x0 x1:T):EE F 104 [x0,x1] []=KK F (FF [.tmpd 4] 0) [.code b104] ((S0.put 0 (.t x0)).put 1 (.t x1)):=EE_run (fn:=i104) (by kernel_rfl) rfl
theorem R105 (x0 x1:T):EE F 105 [x0,x1] []=KK F (FF [.celld 4 4 true] 0) [.code b105] ((S0.put 0 (.t x0)).put 1 (.t x1)):=EE_run (fn:=i105) (by kernel_rfl) rfl
theorem R106 (x0 x1:T):EE F 106 [x0,x1] []=KK F (FF [.celld 4 6 true] 0) [.code b106] ((S0.put 0 (.t x0)).put 1 (.t x1)):=EE_run (fn:=i106) (by kernel_rfl) rfl
theorem R107 (x0 x1 x2:T):EE F 107 [x0,x1,x2] []=KK F (FF [.celld 6 7 true] 0) [.code b107] (((S0.put 0 (.t x0)).put 1 (.t x1)).put 2 (.t x2)):=EE_run (fn:=i107) (by kernel_rfl) rfl
theorem R108 (x0 x1:T):EE F 108 [x0,x1] []=KK F (FF [.celld 4 13 true] 0) [.code b108] ((S0.put 0 (.t x0)).put 1 (.t x1)):=EE_run (fn:=i108) (by kernel_rfl) rfl
theorem R109 (x0:T):EE F 109 [x0] []=KK F (FF [.celld 2 6 true] 0) [.code b109] (S0.put 0 (.t x0)):=EE_run (fn:=i109) (by kernel_rfl) rfl
theorem R110 (x0:T):EE F 110 [x0] []=KK F (FF [.tmp 2] 0) [.code b110] (S0.put 0 (.t x0)):=EE_run (fn:=i110) (by kernel_rfl) rfl
theorem R111 (x0 x1:T):EE F 111 [x0,x1] []=KK F (FF [.tmpd 4] 0) [.code b111] ((S0.put 0 (.t x0)).put 1 (.t x1)):=EE_run (fn:=i111) (by kernel_rfl) rfl
theorem R119 (x0 x1:T):EE F 119 [x0,x1] []=KK F (FF [.tmpd 4] 0) [.code b119] ((S0.put 0 (.t x0)).put 1 (.t x1)):=EE_run (fn:=i119) (by kernel_rfl) rfl
theorem R120 (x0 x1:T):EE F 120 [x0,x1] []=KK F (FF [.tmpd 4] 0) [.code b120] ((S0.put 0 (.t x0)).put 1 (.t x1)):=EE_run (fn:=i120) (by kernel_rfl) rfl
theorem R125 (x0:T):EE F 125 [x0] []=KK F (FF [.tmp 2] 0) [.code b125] (S0.put 0 (.t x0)):=EE_run (fn:=i125) (by kernel_rfl) rfl
theorem R126 (x0:T):EE F 126 [x0] []=KK F (FF [.tmp 2] 0) [.code b126] (S0.put 0 (.t x0)):=EE_run (fn:=i126) (by kernel_rfl) rfl
theorem R128 (x0 x1:T):EE F 128 [x0,x1] []=KK F (FF [.tmp 4] 0) [.code b128] ((S0.put 0 (.t x0)).put 1 (.t x1)):=EE_run (fn:=i128) (by kernel_rfl) rfl
theorem R129 (x0:T):EE F 129 [x0] []=KK F (FF [.tmp 2] 0) [.code b129] (S0.put 0 (.t x0)):=EE_run (fn:=i129) (by kernel_rfl) rfl
theorem R130 (x0:T):EE F 130 [x0] []=KK F (FF [.tmp 2] 0) [.code b130] (S0.put 0 (.t x0)):=EE_run (fn:=i130) (by kernel_rfl) rfl
theorem R131 (x0:T):EE F 131 [x0] []=KK F (FF [.tmp 2] 0) [.code b131] (S0.put 0 (.t x0)):=EE_run (fn:=i131) (by kernel_rfl) rfl
theorem R132 (x0:T):EE F 132 [x0] []=KK F (FF [.tmp 2] 0) [.code b132] (S0.put 0 (.t x0)):=EE_run (fn:=i132) (by kernel_rfl) rfl
theorem R133 (x0 x1 x2:T):EE F 133 [x0,x1,x2] []=KK F (FF [.tmpd 6] 0) [.code b133] (((S0.put 0 (.t x0)).put 1 (.t x1)).put 2 (.t x2)):=EE_run (fn:=i133) (by kernel_rfl) rfl
theorem R134 (x0 x1:T):EE F 134 [x0,x1] []=KK F (FF [.tmpd 4] 0) [.code b134] ((S0.put 0 (.t x0)).put 1 (.t x1)):=EE_run (fn:=i134) (by kernel_rfl) rfl
theorem R135 (x0 x1:T):EE F 135 [x0,x1] []=KK F (FF [.celld 4 4 true] 0) [.code b135] ((S0.put 0 (.t x0)).put 1 (.t x1)):=EE_run (fn:=i135) (by kernel_rfl) rfl
theorem R136 (x0 x1 x2:T):EE F 136 [x0,x1,x2] []=KK F (FF [.tmpd 6] 0) [.code b136] (((S0.put 0 (.t x0)).put 1 (.t x1)).put 2 (.t x2)):=EE_run (fn:=i136) (by kernel_rfl) rfl
theorem R137 (x0 x1:T):EE F 137 [x0,x1] []=KK F (FF [.tmpd 4] 0) [.code b137] ((S0.put 0 (.t x0)).put 1 (.t x1)):=EE_run (fn:=i137) (by kernel_rfl) rfl
theorem R138 (x0 x1 x2:T):EE F 138 [x0,x1,x2] []=KK F (FF [.celld 6 9 true] 0) [.code b138] (((S0.put 0 (.t x0)).put 1 (.t x1)).put 2 (.t x2)):=EE_run (fn:=i138) (by kernel_rfl) rfl
theorem R139 (x0:T):EE F 139 [x0] []=KK F (FF [.tmp 2] 0) [.code b139] (S0.put 0 (.t x0)):=EE_run (fn:=i139) (by kernel_rfl) rfl
theorem R140 (x0:T):EE F 140 [x0] []=KK F (FF [.celld 2 6 true] 0) [.code b140] (S0.put 0 (.t x0)):=EE_run (fn:=i140) (by kernel_rfl) rfl
theorem R141 (x0 x1:T):EE F 141 [x0,x1] []=KK F (FF [.tmp 4] 0) [.code b141] ((S0.put 0 (.t x0)).put 1 (.t x1)):=EE_run (fn:=i141) (by kernel_rfl) rfl
theorem R142 (x0:T):EE F 142 [x0] []=KK F (FF [.celld 2 3 true] 0) [.code b142] (S0.put 0 (.t x0)):=EE_run (fn:=i142) (by kernel_rfl) rfl
theorem R143 (x0:T):EE F 143 [x0] []=KK F (FF [.tmp 2] 0) [.code b143] (S0.put 0 (.t x0)):=EE_run (fn:=i143) (by kernel_rfl) rfl
theorem R144 (x0:T):EE F 144 [x0] []=KK F (FF [.tmp 2] 0) [.code b144] (S0.put 0 (.t x0)):=EE_run (fn:=i144) (by kernel_rfl) rfl
theorem R146 (x0:T):EE F 146 [x0] []=KK F (FF [.tmp 2] 0) [.code b146] (S0.put 0 (.t x0)):=EE_run (fn:=i146) (by kernel_rfl) rfl
theorem R147 (x0:T):EE F 147 [x0] []=KK F (FF [.tmp 2] 0) [.code b147] (S0.put 0 (.t x0)):=EE_run (fn:=i147) (by kernel_rfl) rfl
theorem R148 (x0 x1:T):EE F 148 [x0,x1] []=KK F (FF [.cell 4 2 true,.cell 5 2 true,.tmp 6] 0) [.code b148] ((S0.put 0 (.t x0)).put 1 (.t x1)):=EE_run (fn:=i148) (by kernel_rfl) rfl
theorem R149 (x0:T):EE F 149 [x0] []=KK F (FF [.tmp 2] 0) [.code b149] (S0.put 0 (.t x0)):=EE_run (fn:=i149) (by kernel_rfl) rfl
theorem R150 (x0 x1:T):EE F 150 [x0,x1] []=KK F (FF [.tmp 4] 0) [.code b150] ((S0.put 0 (.t x0)).put 1 (.t x1)):=EE_run (fn:=i150) (by kernel_rfl) rfl
theorem R151 (x0 x1:T):EE F 151 [x0,x1] []=KK F (FF [.tmp 4] 0) [.code b151] ((S0.put 0 (.t x0)).put 1 (.t x1)):=EE_run (fn:=i151) (by kernel_rfl) rfl
theorem R152 (x0:T):EE F 152 [x0] []=KK F (FF [.tmp 2] 0) [.code b152] (S0.put 0 (.t x0)):=EE_run (fn:=i152) (by kernel_rfl) rfl
theorem R153 (x0 x1:T):EE F 153 [x0,x1] []=KK F (FF [.tmpd 4] 0) [.code b153] ((S0.put 0 (.t x0)).put 1 (.t x1)):=EE_run (fn:=i153) (by kernel_rfl) rfl
theorem R154 (x0:T):EE F 154 [x0] []=KK F (FF [.tmp 2] 0) [.code b154] (S0.put 0 (.t x0)):=EE_run (fn:=i154) (by kernel_rfl) rfl
theorem R155 (x0:T):EE F 155 [x0] []=KK F (FF [.tmp 2] 0) [.code b155] (S0.put 0 (.t x0)):=EE_run (fn:=i155) (by kernel_rfl) rfl
theorem R156 (x0:T):EE F 156 [x0] []=KK F (FF [.tmp 2] 0) [.code b156] (S0.put 0 (.t x0)):=EE_run (fn:=i156) (by kernel_rfl) rfl
end Go.Proofs.YtfajcehhcjmofaaV
