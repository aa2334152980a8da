/- The table of functions, and that each stands for the program's. -/
import Derived.Test.YtfajcehhcjmofaaGreatV27
import Derived.Test.YtfajcehhcjmofaaGreatS3
import Derived.Test.YtfajcehhcjmofaaGreatJ0
import Derived.Test.YtfajcehhcjmofaaGreatProg
import Derived.KernelRfl
namespace Go.Proofs.YtfajcehhcjmofaaGreatV
open Go
def tab:List (Nat×IFn):=[(4,i4),(11,i11),(13,i13),(15,i15),(16,i16),(17,i17),(18,i18),(19,i19),(20,i20),(21,i21),(22,i22),(23,i23),(25,i25),(26,i26),(31,i31),(32,i32),(38,i38),(40,i40),(41,i41),(47,i47),(48,i48),(51,i51),(54,i54),(55,i55),(56,i56),(57,i57),(62,i62),(63,i63),(64,i64),(65,i65),(70,i70),(71,i71),(72,i72),(73,i73),(74,i74),(75,i75),(76,i76),(77,i77),(78,i78),(79,i79),(80,i80),(81,i81),(82,i82),(85,i85),(86,i86),(87,i87),(88,i88),(89,i89),(90,i90),(91,i91),(92,i92),(93,i93),(94,i94),(95,i95),(96,i96),(97,i97),(98,i98),(99,i99),(101,i101),(102,i102),(103,i103),(105,i105),(107,i107),(108,i108),(109,i109),(110,i110),(114,i114),(115,i115),(116,i116),(118,i118),(120,i120),(121,i121),(122,i122),(123,i123),(124,i124),(125,i125),(128,i128),(129,i129),(131,i131),(133,i133),(134,i134),(135,i135),(136,i136),(137,i137),(140,i140),(141,i141),(144,i144),(145,i145),(146,i146),(147,i147),(148,i148),(149,i149),(150,i150),(151,i151),(152,i152),(153,i153),(154,i154),(155,i155),(156,i156),(157,i157),(158,i158),(159,i159),(168,i168),(169,i169),(170,i170),(171,i171),(172,i172),(173,i173),(174,i174),(175,i175),(176,i176),(177,i177),(178,i178),(179,i179),(180,i180),(181,i181),(182,i182),(183,i183),(184,i184),(185,i185),(186,i186),(187,i187),(188,i188),(190,i190),(192,i192),(193,i193),(194,i194),(196,i196),(197,i197),(198,i198),(199,i199),(200,i200),(201,i201),(202,i202),(203,i203),(204,i204),(205,i205),(206,i206),(207,i207),(208,i208),(209,i209),(210,i210),(213,i213),(214,i214),(215,i215),(216,i216),(217,i217),(218,i218),(221,i221),(222,i222),(223,i223),(224,i224),(225,i225),(226,i226),(227,i227),(228,i228),(229,i229),(230,i230),(231,i231),(243,i243),(244,i244),(245,i245),(246,i246),(247,i247),(248,i248),(249,i249),(250,i250),(252,i252),(253,i253),(254,i254),(255,i255),(256,i256),(257,i257),(258,i258),(259,i259),(260,i260),(261,i261),(262,i262),(263,i263),(264,i264),(265,i265),(266,i266),(267,i267),(268,i268),(269,i269),(270,i270),(271,i271),(272,i272),(273,i273),(274,i274),(275,i275),(276,i276),(277,i277),(278,i278),(279,i279),(280,i280),(281,i281),(296,i296),(297,i297),(298,i298),(299,i299),(300,i300),(301,i301),(302,i302),(303,i303),(304,i304),(305,i305),(306,i306),(307,i307),(308,i308),(309,i309),(310,i310),(311,i311),(312,i312),(313,i313),(314,i314),(315,i315),(316,i316),(317,i317),(318,i318),(319,i319),(320,i320),(335,i335),(336,i336),(337,i337),(338,i338),(339,i339),(340,i340),(341,i341),(342,i342),(343,i343),(344,i344),(345,i345),(346,i346),(357,i357)]
def F (f:Nat):Option IFn:=tab.lookup f
theorem ZOO:tab.all (fun q=>Zfs Zi Tryz.prog q.1 q.2)=true:=by kernel_rfl
theorem ZMJ {l:List (Nat×IFn)} {p:Nat→IFn→Prop} (h:∀ q,q∈l→p q.1 q.2) {f:Nat} {i:IFn} (hf:l.lookup f=some i):p f i:=by
 induction l with
 | nil=>simp at hf
 | cons q l ih=>
  obtain ⟨g,j⟩:=q
  simp only[List.lookup_cons] at hf
  split at hf
  ·rename_i he
   simp only[beq_iff_eq] at he
   cases hf
   subst he
   exact h (f,i) (List.mem_cons_self ..)
  ·exact ih (fun q hq=>h q (List.mem_cons_of_mem _ hq)) hf
theorem hF (f:Nat) (i:IFn) (hf:F f=some i):Zfs Zi Tryz.prog f i=true:=
 ZMJ (p:=fun f i=>Zfs Zi Tryz.prog f i=true) (fun q hq=>List.all_eq_true.1 ZOO q hq) hf
theorem ZNi:Zad Tryz.prog (EE F):=Zhr (Zhq (by kernel_rfl)) hF
theorem R4 (x0 x1:T):EE F 4 [x0,x1] []=KK F (FF [.tmp 4] 0) [.code b4] ((S0.put 0 (.t x0)).put 1 (.t x1)):=EE_run (fn:=i4) (by kernel_rfl) rfl
theorem R11 (x0 x1:T):EE F 11 [x0,x1] []=KK F (FF [.tmp 4] 0) [.code b11] ((S0.put 0 (.t x0)).put 1 (.t x1)):=EE_run (fn:=i11) (by kernel_rfl) rfl
theorem R13 (x0:T):EE F 13 [x0] []=KK F (FF [.cell 2 12 true] 0) [.code b13] (S0.put 0 (.t x0)):=EE_run (fn:=i13) (by kernel_rfl) rfl
theorem R15 (x0 x1:T):EE F 15 [x0,x1] []=KK F (FF [.tmp 4] 0) [.code b15] ((S0.put 0 (.t x0)).put 1 (.t x1)):=EE_run (fn:=i15) (by kernel_rfl) rfl
theorem R16 (x0 x1:T):EE F 16 [x0,x1] []=KK F (FF [.tmp 4] 0) [.code b16] ((S0.put 0 (.t x0)).put 1 (.t x1)):=EE_run (fn:=i16) (by kernel_rfl) rfl
theorem R17 (x0 x1:T):EE F 17 [x0,x1] []=KK F (FF [.tmp 4] 0) [.code b17] ((S0.put 0 (.t x0)).put 1 (.t x1)):=EE_run (fn:=i17) (by kernel_rfl) rfl
theorem R18 (x0:T):EE F 18 [x0] []=KK F (FF [.cell 2 2 true] 0) [.code b18] (S0.put 0 (.t x0)):=EE_run (fn:=i18) (by kernel_rfl) rfl
theorem R19 (x0 x1:T):EE F 19 [x0,x1] []=KK F (FF [.tmp 4] 0) [.code b19] ((S0.put 0 (.t x0)).put 1 (.t x1)):=EE_run (fn:=i19) (by kernel_rfl) rfl
theorem R20 (x0 x1:T):EE F 20 [x0,x1] []=KK F (FF [.tmp 4] 0) [.code b20] ((S0.put 0 (.t x0)).put 1 (.t x1)):=EE_run (fn:=i20) (by kernel_rfl) rfl
theorem R21 (x0 x1:T):EE F 21 [x0,x1] []=KK F (FF [.tmp 4] 0) [.code b21] ((S0.put 0 (.t x0)).put 1 (.t x1)):=EE_run (fn:=i21) (by kernel_rfl) rfl
theorem R22 (x0 x1:T):EE F 22 [x0,x1] []=KK F (FF [.tmp 4] 0) [.code b22] ((S0.put 0 (.t x0)).put 1 (.t x1)):=EE_run (fn:=i22) (by kernel_rfl) rfl
theorem R23 (x0 x1:T):EE F 23 [x0,x1] []=KK F (FF [.tmp 4] 0) [.code b23] ((S0.put 0 (.t x0)).put 1 (.t x1)):=EE_run (fn:=i23) (by kernel_rfl) rfl
theorem R25 (x0:T):EE F 25 [x0] []=KK F (FF [.tmp 2] 0) [.code b25] (S0.put 0 (.t x0)):=EE_run (fn:=i25) (by kernel_rfl) rfl
theorem R26 (x0:T):EE F 26 [x0] []=KK F (FF [.tmp 2] 0) [.code b26] (S0.put 0 (.t x0)):=EE_run (fn:=i26) (by kernel_rfl) rfl
theorem R31 (x0:T):EE F 31 [x0] []=KK F (FF [.tmp 2] 0) [.code b31] (S0.put 0 (.t x0)):=EE_run (fn:=i31) (by kernel_rfl) rfl
theorem R32 (x0:T):EE F 32 [x0] []=KK F (FF [.tmp 2] 0) [.code b32] (S0.put 0 (.t x0)):=EE_run (fn:=i32) (by kernel_rfl) rfl
theorem R38 (x0:T):EE F 38 [x0] []=KK F (FF [.tmp 2] 0) [.code b38] (S0.put 0 (.t x0)):=EE_run (fn:=i38) (by kernel_rfl) rfl
theorem R40 (x0:T):EE F 40 [x0] []=KK F (FF [.tmp 2] 0) [.code b40] (S0.put 0 (.t x0)):=EE_run (fn:=i40) (by kernel_rfl) rfl
theorem R41 (x0:T):EE F 41 [x0] []=KK F (FF [.tmp 2] 0) [.code b41] (S0.put 0 (.t x0)):=EE_run (fn:=i41) (by kernel_rfl) rfl
theorem R47 (x0 x1:T):EE F 47 [x0,x1] []=KK F (FF [.tmp 4] 0) [.code b47] ((S0.put 0 (.t x0)).put 1 (.t x1)):=EE_run (fn:=i47) (by kernel_rfl) rfl
theorem R48 (x0:T):EE F 48 [x0] []=KK F (FF [.tmp 2] 0) [.code b48] (S0.put 0 (.t x0)):=EE_run (fn:=i48) (by kernel_rfl) rfl
theorem R51 (x0:T):EE F 51 [x0] []=KK F (FF [.tmp 2] 0) [.code b51] (S0.put 0 (.t x0)):=EE_run (fn:=i51) (by kernel_rfl) rfl
theorem R54 (x0 x1:T):EE F 54 [x0,x1] []=KK F (FF [.tmp 4] 0) [.code b54] ((S0.put 0 (.t x0)).put 1 (.t x1)):=EE_run (fn:=i54) (by kernel_rfl) rfl
theorem R55 (x0 x1:T):EE F 55 [x0,x1] []=KK F (FF [.tmp 4] 0) [.code b55] ((S0.put 0 (.t x0)).put 1 (.t x1)):=EE_run (fn:=i55) (by kernel_rfl) rfl
theorem R56 (x0 x1:T):EE F 56 [x0,x1] []=KK F (FF [.tmp 4] 0) [.code b56] ((S0.put 0 (.t x0)).put 1 (.t x1)):=EE_run (fn:=i56) (by kernel_rfl) rfl
theorem R57 (x0 x1:T):EE F 57 [x0,x1] []=KK F (FF [.tmp 4] 0) [.code b57] ((S0.put 0 (.t x0)).put 1 (.t x1)):=EE_run (fn:=i57) (by kernel_rfl) rfl
theorem R62 (x0:T):EE F 62 [x0] []=KK F (FF [.tmp 2] 0) [.code b62] (S0.put 0 (.t x0)):=EE_run (fn:=i62) (by kernel_rfl) rfl
theorem R63 (x0:T):EE F 63 [x0] []=KK F (FF [.tmp 2] 0) [.code b63] (S0.put 0 (.t x0)):=EE_run (fn:=i63) (by kernel_rfl) rfl
theorem R64 (x0:T):EE F 64 [x0] []=KK F (FF [.tmp 2] 0) [.code b64] (S0.put 0 (.t x0)):=EE_run (fn:=i64) (by kernel_rfl) rfl
theorem R65 (x0:T):EE F 65 [x0] []=KK F (FF [.cell 2 7 true] 0) [.code b65] (S0.put 0 (.t x0)):=EE_run (fn:=i65) (by kernel_rfl) rfl
theorem R70 (x0 x1:T):EE F 70 [x0,x1] []=KK F (FF [.tmp 4] 0) [.code b70] ((S0.put 0 (.t x0)).put 1 (.t x1)):=EE_run (fn:=i70) (by kernel_rfl) rfl
theorem R71 (x0 x1:T):EE F 71 [x0,x1] []=KK F (FF [.tmp 4] 0) [.code b71] ((S0.put 0 (.t x0)).put 1 (.t x1)):=EE_run (fn:=i71) (by kernel_rfl) rfl
theorem R72 (x0 x1:T):EE F 72 [x0,x1] []=KK F (FF [.tmp 4] 0) [.code b72] ((S0.put 0 (.t x0)).put 1 (.t x1)):=EE_run (fn:=i72) (by kernel_rfl) rfl
theorem R73 (x0 x1:T):EE F 73 [x0,x1] []=KK F (FF [.tmp 4] 0) [.code b73] ((S0.put 0 (.t x0)).put 1 (.t x1)):=EE_run (fn:=i73) (by kernel_rfl) rfl
theorem R74 (x0 x1:T):EE F 74 [x0,x1] []=KK F (FF [.celld 4 3 true,.tmpd 5] 0) [.code b74] ((S0.put 0 (.t x0)).put 1 (.t x1)):=EE_run (fn:=i74) (by kernel_rfl) rfl
theorem R75 (x0 x1:T):EE F 75 [x0,x1] []=KK F (FF [.cell 4 3 true,.tmp 5] 0) [.code b75] ((S0.put 0 (.t x0)).put 1 (.t x1)):=EE_run (fn:=i75) (by kernel_rfl) rfl
theorem R76 (x0 x1:T):EE F 76 [x0,x1] []=KK F (FF [.tmp 4] 0) [.code b76] ((S0.put 0 (.t x0)).put 1 (.t x1)):=EE_run (fn:=i76) (by kernel_rfl) rfl
theorem R77 (x0 x1:T):EE F 77 [x0,x1] []=KK F (FF [.tmp 4] 0) [.code b77] ((S0.put 0 (.t x0)).put 1 (.t x1)):=EE_run (fn:=i77) (by kernel_rfl) rfl
theorem R78 (x0 x1:T):EE F 78 [x0,x1] []=KK F (FF [.tmp 4] 0) [.code b78] ((S0.put 0 (.t x0)).put 1 (.t x1)):=EE_run (fn:=i78) (by kernel_rfl) rfl
theorem R79 (x0 x1:T):EE F 79 [x0,x1] []=KK F (FF [.tmp 4] 0) [.code b79] ((S0.put 0 (.t x0)).put 1 (.t x1)):=EE_run (fn:=i79) (by kernel_rfl) rfl
theorem R80 (x0:T):EE F 80 [x0] []=KK F (FF [.tmp 2] 0) [.code b80] (S0.put 0 (.t x0)):=EE_run (fn:=i80) (by kernel_rfl) rfl
theorem R81 (x0 x1:T):EE F 81 [x0,x1] []=KK F (FF [.tmp 4] 0) [.code b81] ((S0.put 0 (.t x0)).put 1 (.t x1)):=EE_run (fn:=i81) (by kernel_rfl) rfl
theorem R82 (x0 x1:T):EE F 82 [x0,x1] []=KK F (FF [.tmp 4] 0) [.code b82] ((S0.put 0 (.t x0)).put 1 (.t x1)):=EE_run (fn:=i82) (by kernel_rfl) rfl
theorem R85 (x0:T):EE F 85 [x0] []=KK F (FF [.tmp 2] 0) [.code b85] (S0.put 0 (.t x0)):=EE_run (fn:=i85) (by kernel_rfl) rfl
theorem R86 (x0 x1:T):EE F 86 [x0,x1] []=KK F (FF [.tmp 4] 0) [.code b86] ((S0.put 0 (.t x0)).put 1 (.t x1)):=EE_run (fn:=i86) (by kernel_rfl) rfl
theorem R87 (x0:T):EE F 87 [x0] []=KK F (FF [.tmp 2] 0) [.code b87] (S0.put 0 (.t x0)):=EE_run (fn:=i87) (by kernel_rfl) rfl
theorem R88 (x0:T):EE F 88 [x0] []=KK F (FF [.tmp 2] 0) [.code b88] (S0.put 0 (.t x0)):=EE_run (fn:=i88) (by kernel_rfl) rfl
theorem R89 (x0:T):EE F 89 [x0] []=KK F (FF [.tmp 2] 0) [.code b89] (S0.put 0 (.t x0)):=EE_run (fn:=i89) (by kernel_rfl) rfl
theorem R90 (x0:T):EE F 90 [x0] []=KK F (FF [.tmp 2] 0) [.code b90] (S0.put 0 (.t x0)):=EE_run (fn:=i90) (by kernel_rfl) rfl
theorem R91 (x0:T):EE F 91 [x0] []=KK F (FF [.tmp 2] 0) [.code b91] (S0.put 0 (.t x0)):=EE_run (fn:=i91) (by kernel_rfl) rfl
theorem R92 (x0:T):EE F 92 [x0] []=KK F (FF [.tmp 2] 0) [.code b92] (S0.put 0 (.t x0)):=EE_run (fn:=i92) (by kernel_rfl) rfl
theorem R93 (x0 x1 x2:T):EE F 93 [x0,x1,x2] []=KK F (FF [.tmp 6] 0) [.code b93] (((S0.put 0 (.t x0)).put 1 (.t x1)).put 2 (.t x2)):=EE_run (fn:=i93) (by kernel_rfl) rfl
theorem R94 (x0 x1:T):EE F 94 [x0,x1] []=KK F (FF [.tmp 4] 0) [.code b94] ((S0.put 0 (.t x0)).put 1 (.t x1)):=EE_run (fn:=i94) (by kernel_rfl) rfl
theorem R95 (x0:T):EE F 95 [x0] []=KK F (FF [.tmp 2] 0) [.code b95] (S0.put 0 (.t x0)):=EE_run (fn:=i95) (by kernel_rfl) rfl
theorem R96 (x0:T):EE F 96 [x0] []=KK F (FF [.tmp 2] 0) [.code b96] (S0.put 0 (.t x0)):=EE_run (fn:=i96) (by kernel_rfl) rfl
theorem R97 (x0:T):EE F 97 [x0] []=KK F (FF [.tmp 2] 0) [.code b97] (S0.put 0 (.t x0)):=EE_run (fn:=i97) (by kernel_rfl) rfl
theorem R98 (x0:T):EE F 98 [x0] []=KK F (FF [.tmp 2] 0) [.code b98] (S0.put 0 (.t x0)):=EE_run (fn:=i98) (by kernel_rfl) rfl
theorem R99 (x0:T):EE F 99 [x0] []=KK F (FF [.tmp 2] 0) [.code b99] (S0.put 0 (.t x0)):=EE_run (fn:=i99) (by kernel_rfl) rfl
theorem R101 (x0:T):EE F 101 [x0] []=KK F (FF [.tmp 2] 0) [.code b101] (S0.put 0 (.t x0)):=EE_run (fn:=i101) (by kernel_rfl) rfl
theorem R102 (x0:T):EE F 102 [x0] []=KK F (FF [.tmp 2] 0) [.code b102] (S0.put 0 (.t x0)):=EE_run (fn:=i102) (by kernel_rfl) rfl
theorem R103 (x0:T):EE F 103 [x0] []=KK F (FF [.tmp 2] 0) [.code b103] (S0.put 0 (.t x0)):=EE_run (fn:=i103) (by kernel_rfl) rfl
theorem R105 (x0:T):EE F 105 [x0] []=KK F (FF [.cell 2 6 true] 0) [.code b105] (S0.put 0 (.t x0)):=EE_run (fn:=i105) (by kernel_rfl) rfl
theorem R107 (x0:T):EE F 107 [x0] []=KK F (FF [.celld 2 6 true] 0) [.code b107] (S0.put 0 (.t x0)):=EE_run (fn:=i107) (by kernel_rfl) rfl
theorem R108 (x0:T):EE F 108 [x0] []=KK F (FF [.tmp 2] 0) [.code b108] (S0.put 0 (.t x0)):=EE_run (fn:=i108) (by kernel_rfl) rfl
theorem R109 (x0 x1:T):EE F 109 [x0,x1] []=KK F (FF [.tmp 4] 0) [.code b109] ((S0.put 0 (.t x0)).put 1 (.t x1)):=EE_run (fn:=i109) (by kernel_rfl) rfl
theorem R110 (x0 x1:T):EE F 110 [x0,x1] []=KK F (FF [.cell 4 2 true,.cell 5 2 true,.tmp 6] 0) [.code b110] ((S0.put 0 (.t x0)).put 1 (.t x1)):=EE_run (fn:=i110) (by kernel_rfl) rfl
theorem R114 (x0 x1:T):EE F 114 [x0,x1] []=KK F (FF [.tmp 4,.tmp 5] 0) [.code b114] ((S0.put 0 (.t x0)).put 1 (.t x1)):=EE_run (fn:=i114) (by kernel_rfl) rfl
theorem R115 (x0:T):EE F 115 [x0] []=KK F (FF [.tmp 2] 0) [.code b115] (S0.put 0 (.t x0)):=EE_run (fn:=i115) (by kernel_rfl) rfl
theorem R116 (x0:T):EE F 116 [x0] []=KK F (FF [.tmp 2] 0) [.code b116] (S0.put 0 (.t x0)):=EE_run (fn:=i116) (by kernel_rfl) rfl
theorem R118 (x0:T):EE F 118 [x0] []=KK F (FF [.tmp 2] 0) [.code b118] (S0.put 0 (.t x0)):=EE_run (fn:=i118) (by kernel_rfl) rfl
theorem R120 (x0 x1:T):EE F 120 [x0,x1] []=KK F (FF [.cell 4 2 true,.tmp 5] 0) [.code b120] ((S0.put 0 (.t x0)).put 1 (.t x1)):=EE_run (fn:=i120) (by kernel_rfl) rfl
theorem R121 (x0 x1:T):EE F 121 [x0,x1] []=KK F (FF [.tmp 4] 0) [.code b121] ((S0.put 0 (.t x0)).put 1 (.t x1)):=EE_run (fn:=i121) (by kernel_rfl) rfl
theorem R122 (x0 x1:T):EE F 122 [x0,x1] []=KK F (FF [.tmp 4] 0) [.code b122] ((S0.put 0 (.t x0)).put 1 (.t x1)):=EE_run (fn:=i122) (by kernel_rfl) rfl
theorem R123 (x0 x1:T):EE F 123 [x0,x1] []=KK F (FF [.tmp 4] 0) [.code b123] ((S0.put 0 (.t x0)).put 1 (.t x1)):=EE_run (fn:=i123) (by kernel_rfl) rfl
theorem R124 (x0 x1:T):EE F 124 [x0,x1] []=KK F (FF [.tmp 4] 0) [.code b124] ((S0.put 0 (.t x0)).put 1 (.t x1)):=EE_run (fn:=i124) (by kernel_rfl) rfl
theorem R125 (x0:T):EE F 125 [x0] []=KK F (FF [.tmp 2] 0) [.code b125] (S0.put 0 (.t x0)):=EE_run (fn:=i125) (by kernel_rfl) rfl
theorem R128 (x0:T):EE F 128 [x0] []=KK F (FF [.tmp 2] 0) [.code b128] (S0.put 0 (.t x0)):=EE_run (fn:=i128) (by kernel_rfl) rfl
theorem R129 (x0 x1:T):EE F 129 [x0,x1] []=KK F (FF [.tmp 4] 0) [.code b129] ((S0.put 0 (.t x0)).put 1 (.t x1)):=EE_run (fn:=i129) (by kernel_rfl) rfl
theorem R131 (x0:T):EE F 131 [x0] []=KK F (FF [.tmp 2] 0) [.code b131] (S0.put 0 (.t x0)):=EE_run (fn:=i131) (by kernel_rfl) rfl
theorem R133 (x0 x1:T):EE F 133 [x0,x1] []=KK F (FF [.cell 4 6 true,.tmp 5] 0) [.code b133] ((S0.put 0 (.t x0)).put 1 (.t x1)):=EE_run (fn:=i133) (by kernel_rfl) rfl
theorem R134 (x0:T):EE F 134 [x0] []=KK F (FF [.cell 2 14 true] 0) [.code b134] (S0.put 0 (.t x0)):=EE_run (fn:=i134) (by kernel_rfl) rfl
theorem R135 (x0:T):EE F 135 [x0] []=KK F (FF [.cell 2 8 true] 0) [.code b135] (S0.put 0 (.t x0)):=EE_run (fn:=i135) (by kernel_rfl) rfl
theorem R136 (x0:T):EE F 136 [x0] []=KK F (FF [.cell 2 9 true] 0) [.code b136] (S0.put 0 (.t x0)):=EE_run (fn:=i136) (by kernel_rfl) rfl
theorem R137 (x0:T):EE F 137 [x0] []=KK F (FF [.tmp 2] 0) [.code b137] (S0.put 0 (.t x0)):=EE_run (fn:=i137) (by kernel_rfl) rfl
theorem R140 (x0 x1:T):EE F 140 [x0,x1] []=KK F (FF [.cell 4 6 true,.tmp 5] 0) [.code b140] ((S0.put 0 (.t x0)).put 1 (.t x1)):=EE_run (fn:=i140) (by kernel_rfl) rfl
theorem R141 (x0:T):EE F 141 [x0] []=KK F (FF [.tmp 2] 0) [.code b141] (S0.put 0 (.t x0)):=EE_run (fn:=i141) (by kernel_rfl) rfl
theorem R144 (x0 x1:T):EE F 144 [x0,x1] []=KK F (FF [.tmp 4] 0) [.code b144] ((S0.put 0 (.t x0)).put 1 (.t x1)):=EE_run (fn:=i144) (by kernel_rfl) rfl
theorem R145 (x0 x1:T):EE F 145 [x0,x1] []=KK F (FF [.tmp 4] 0) [.code b145] ((S0.put 0 (.t x0)).put 1 (.t x1)):=EE_run (fn:=i145) (by kernel_rfl) rfl
theorem R146 (x0 x1:T):EE F 146 [x0,x1] []=KK F (FF [.tmp 4] 0) [.code b146] ((S0.put 0 (.t x0)).put 1 (.t x1)):=EE_run (fn:=i146) (by kernel_rfl) rfl
theorem R147 (x0 x1:T):EE F 147 [x0,x1] []=KK F (FF [.cell 4 2 true,.tmp 5] 0) [.code b147] ((S0.put 0 (.t x0)).put 1 (.t x1)):=EE_run (fn:=i147) (by kernel_rfl) rfl
theorem R148 (x0:T):EE F 148 [x0] []=KK F (FF [.tmp 2] 0) [.code b148] (S0.put 0 (.t x0)):=EE_run (fn:=i148) (by kernel_rfl) rfl
theorem R149 (x0 x1:T):EE F 149 [x0,x1] []=KK F (FF [.tmp 4] 0) [.code b149] ((S0.put 0 (.t x0)).put 1 (.t x1)):=EE_run (fn:=i149) (by kernel_rfl) rfl
theorem R150 (x0 x1:T):EE F 150 [x0,x1] []=KK F (FF [.cell 4 2 true,.tmp 5] 0) [.code b150] ((S0.put 0 (.t x0)).put 1 (.t x1)):=EE_run (fn:=i150) (by kernel_rfl) rfl
theorem R151 (x0 x1:T):EE F 151 [x0,x1] []=KK F (FF [.tmp 4] 0) [.code b151] ((S0.put 0 (.t x0)).put 1 (.t x1)):=EE_run (fn:=i151) (by kernel_rfl) rfl
theorem R152 (x0 x1:T):EE F 152 [x0,x1] []=KK F (FF [.tmp 4] 0) [.code b152] ((S0.put 0 (.t x0)).put 1 (.t x1)):=EE_run (fn:=i152) (by kernel_rfl) rfl
theorem R153 (x0 x1:T):EE F 153 [x0,x1] []=KK F (FF [.tmp 4] 0) [.code b153] ((S0.put 0 (.t x0)).put 1 (.t x1)):=EE_run (fn:=i153) (by kernel_rfl) rfl
theorem R154 (x0 x1:T):EE F 154 [x0,x1] []=KK F (FF [.tmp 4] 0) [.code b154] ((S0.put 0 (.t x0)).put 1 (.t x1)):=EE_run (fn:=i154) (by kernel_rfl) rfl
theorem R155 (x0 x1:T):EE F 155 [x0,x1] []=KK F (FF [.tmp 4] 0) [.code b155] ((S0.put 0 (.t x0)).put 1 (.t x1)):=EE_run (fn:=i155) (by kernel_rfl) rfl
theorem R156 (x0 x1:T):EE F 156 [x0,x1] []=KK F (FF [.tmp 4] 0) [.code b156] ((S0.put 0 (.t x0)).put 1 (.t x1)):=EE_run (fn:=i156) (by kernel_rfl) rfl
theorem R157 (x0 x1:T):EE F 157 [x0,x1] []=KK F (FF [.tmp 4] 0) [.code b157] ((S0.put 0 (.t x0)).put 1 (.t x1)):=EE_run (fn:=i157) (by kernel_rfl) rfl
theorem R158 (x0 x1:T):EE F 158 [x0,x1] []=KK F (FF [.tmp 4] 0) [.code b158] ((S0.put 0 (.t x0)).put 1 (.t x1)):=EE_run (fn:=i158) (by kernel_rfl) rfl
theorem R159 (x0 x1:T):EE F 159 [x0,x1] []=KK F (FF [.tmp 4] 0) [.code b159] ((S0.put 0 (.t x0)).put 1 (.t x1)):=EE_run (fn:=i159) (by kernel_rfl) rfl
theorem R168 (x0:T):EE F 168 [x0] []=KK F (FF [.tmp 2] 0) [.code b168] (S0.put 0 (.t x0)):=EE_run (fn:=i168) (by kernel_rfl) rfl
theorem R169 (x0:T):EE F 169 [x0] []=KK F (FF [.tmp 2] 0) [.code b169] (S0.put 0 (.t x0)):=EE_run (fn:=i169) (by kernel_rfl) rfl
theorem R170 (x0:T):EE F 170 [x0] []=KK F (FF [.tmp 2] 0) [.code b170] (S0.put 0 (.t x0)):=EE_run (fn:=i170) (by kernel_rfl) rfl
theorem R171 (x0:T):EE F 171 [x0] []=KK F (FF [.tmp 2] 0) [.code b171] (S0.put 0 (.t x0)):=EE_run (fn:=i171) (by kernel_rfl) rfl
theorem R172 (x0:T):EE F 172 [x0] []=KK F (FF [.tmp 2] 0) [.code b172] (S0.put 0 (.t x0)):=EE_run (fn:=i172) (by kernel_rfl) rfl
theorem R173 (x0:T):EE F 173 [x0] []=KK F (FF [.tmp 2] 0) [.code b173] (S0.put 0 (.t x0)):=EE_run (fn:=i173) (by kernel_rfl) rfl
theorem R174 (x0:T):EE F 174 [x0] []=KK F (FF [.tmp 2] 0) [.code b174] (S0.put 0 (.t x0)):=EE_run (fn:=i174) (by kernel_rfl) rfl
theorem R175 (x0:T):EE F 175 [x0] []=KK F (FF [.tmp 2] 0) [.code b175] (S0.put 0 (.t x0)):=EE_run (fn:=i175) (by kernel_rfl) rfl
theorem R176 (x0:T):EE F 176 [x0] []=KK F (FF [.tmp 2] 0) [.code b176] (S0.put 0 (.t x0)):=EE_run (fn:=i176) (by kernel_rfl) rfl
theorem R177 (x0:T):EE F 177 [x0] []=KK F (FF [.tmp 2] 0) [.code b177] (S0.put 0 (.t x0)):=EE_run (fn:=i177) (by kernel_rfl) rfl
theorem R178 (x0:T):EE F 178 [x0] []=KK F (FF [.tmp 2] 0) [.code b178] (S0.put 0 (.t x0)):=EE_run (fn:=i178) (by kernel_rfl) rfl
theorem R179 (x0 x1:T):EE F 179 [x0,x1] []=KK F (FF [] 0) [.code b179] ((S0.put 0 (.t x0)).put 1 (.t x1)):=EE_run (fn:=i179) (by kernel_rfl) rfl
theorem R180 (x0 x1:T):EE F 180 [x0,x1] []=KK F (FF [.tmp 4] 0) [.code b180] ((S0.put 0 (.t x0)).put 1 (.t x1)):=EE_run (fn:=i180) (by kernel_rfl) rfl
theorem R181 (x0 x1:T):EE F 181 [x0,x1] []=KK F (FF [.tmp 4] 0) [.code b181] ((S0.put 0 (.t x0)).put 1 (.t x1)):=EE_run (fn:=i181) (by kernel_rfl) rfl
theorem R182 (x0:T):EE F 182 [x0] []=KK F (FF [.tmp 2] 0) [.code b182] (S0.put 0 (.t x0)):=EE_run (fn:=i182) (by kernel_rfl) rfl
theorem R183 (x0:T):EE F 183 [x0] []=KK F (FF [.tmp 2] 0) [.code b183] (S0.put 0 (.t x0)):=EE_run (fn:=i183) (by kernel_rfl) rfl
theorem R184 (x0:T):EE F 184 [x0] []=KK F (FF [.tmp 2] 0) [.code b184] (S0.put 0 (.t x0)):=EE_run (fn:=i184) (by kernel_rfl) rfl
theorem R185 (x0:T):EE F 185 [x0] []=KK F (FF [.tmp 2] 0) [.code b185] (S0.put 0 (.t x0)):=EE_run (fn:=i185) (by kernel_rfl) rfl
theorem R186 (x0:T):EE F 186 [x0] []=KK F (FF [.tmp 2] 0) [.code b186] (S0.put 0 (.t x0)):=EE_run (fn:=i186) (by kernel_rfl) rfl
theorem R187 (x0:T):EE F 187 [x0] []=KK F (FF [.tmp 2] 0) [.code b187] (S0.put 0 (.t x0)):=EE_run (fn:=i187) (by kernel_rfl) rfl
theorem R188 (x0:T):EE F 188 [x0] []=KK F (FF [.tmp 2] 0) [.code b188] (S0.put 0 (.t x0)):=EE_run (fn:=i188) (by kernel_rfl) rfl
theorem R190 (x0 x1:T):EE F 190 [x0,x1] []=KK F (FF [.tmp 4] 0) [.code b190] ((S0.put 0 (.t x0)).put 1 (.t x1)):=EE_run (fn:=i190) (by kernel_rfl) rfl
theorem R192 (x0 x1 x2:T):EE F 192 [x0,x1,x2] []=KK F (FF [.tmp 6,.tmp 7] 0) [.code b192] (((S0.put 0 (.t x0)).put 1 (.t x1)).put 2 (.t x2)):=EE_run (fn:=i192) (by kernel_rfl) rfl
theorem R193 (x0 x1:T):EE F 193 [x0,x1] []=KK F (FF [.tmp 4] 0) [.code b193] ((S0.put 0 (.t x0)).put 1 (.t x1)):=EE_run (fn:=i193) (by kernel_rfl) rfl
theorem R194 (x0:T):EE F 194 [x0] []=KK F (FF [.tmp 2] 0) [.code b194] (S0.put 0 (.t x0)):=EE_run (fn:=i194) (by kernel_rfl) rfl
theorem R196 (x0:T):EE F 196 [x0] []=KK F (FF [.tmp 2] 0) [.code b196] (S0.put 0 (.t x0)):=EE_run (fn:=i196) (by kernel_rfl) rfl
theorem R197 (x0 x1:T):EE F 197 [x0,x1] []=KK F (FF [.tmp 4] 0) [.code b197] ((S0.put 0 (.t x0)).put 1 (.t x1)):=EE_run (fn:=i197) (by kernel_rfl) rfl
theorem R198 (x0 x1:T):EE F 198 [x0,x1] []=KK F (FF [.tmp 4] 0) [.code b198] ((S0.put 0 (.t x0)).put 1 (.t x1)):=EE_run (fn:=i198) (by kernel_rfl) rfl
theorem R199 (x0 x1:T):EE F 199 [x0,x1] []=KK F (FF [.tmp 4] 0) [.code b199] ((S0.put 0 (.t x0)).put 1 (.t x1)):=EE_run (fn:=i199) (by kernel_rfl) rfl
theorem R200 (x0:T):EE F 200 [x0] []=KK F (FF [.tmp 2] 0) [.code b200] (S0.put 0 (.t x0)):=EE_run (fn:=i200) (by kernel_rfl) rfl
theorem R201 (x0 x1:T):EE F 201 [x0,x1] []=KK F (FF [.tmp 4,.tmp 5] 0) [.code b201] ((S0.put 0 (.t x0)).put 1 (.t x1)):=EE_run (fn:=i201) (by kernel_rfl) rfl
theorem R202 (x0 x1 x2:T):EE F 202 [x0,x1,x2] []=KK F (FF [.tmp 6,.tmp 7] 0) [.code b202] (((S0.put 0 (.t x0)).put 1 (.t x1)).put 2 (.t x2)):=EE_run (fn:=i202) (by kernel_rfl) rfl
theorem R203 (x0:T):EE F 203 [x0] []=KK F (FF [.tmp 2] 0) [.code b203] (S0.put 0 (.t x0)):=EE_run (fn:=i203) (by kernel_rfl) rfl
theorem R204 (x0 x1:T):EE F 204 [x0,x1] []=KK F (FF [.tmp 4] 0) [.code b204] ((S0.put 0 (.t x0)).put 1 (.t x1)):=EE_run (fn:=i204) (by kernel_rfl) rfl
theorem R205 (x0:T):EE F 205 [x0] []=KK F (FF [.tmp 2] 0) [.code b205] (S0.put 0 (.t x0)):=EE_run (fn:=i205) (by kernel_rfl) rfl
theorem R206 (x0:T):EE F 206 [x0] []=KK F (FF [.cell 2 6 true] 0) [.code b206] (S0.put 0 (.t x0)):=EE_run (fn:=i206) (by kernel_rfl) rfl
theorem R207 (x0 x1:T):EE F 207 [x0,x1] []=KK F (FF [.cell 4 6 true,.tmp 5] 0) [.code b207] ((S0.put 0 (.t x0)).put 1 (.t x1)):=EE_run (fn:=i207) (by kernel_rfl) rfl
theorem R208 (x0:T):EE F 208 [x0] []=KK F (FF [.cell 2 13 true] 0) [.code b208] (S0.put 0 (.t x0)):=EE_run (fn:=i208) (by kernel_rfl) rfl
theorem R209 (x0:T):EE F 209 [x0] []=KK F (FF [.tmp 2] 0) [.code b209] (S0.put 0 (.t x0)):=EE_run (fn:=i209) (by kernel_rfl) rfl
theorem R210 (x0:T):EE F 210 [x0] []=KK F (FF [.cell 2 4 true] 0) [.code b210] (S0.put 0 (.t x0)):=EE_run (fn:=i210) (by kernel_rfl) rfl
theorem R213 (x0:T):EE F 213 [x0] []=KK F (FF [.tmp 2] 0) [.code b213] (S0.put 0 (.t x0)):=EE_run (fn:=i213) (by kernel_rfl) rfl
theorem R214 (x0:T):EE F 214 [x0] []=KK F (FF [.cell 2 6 true] 0) [.code b214] (S0.put 0 (.t x0)):=EE_run (fn:=i214) (by kernel_rfl) rfl
theorem R215 (x0 x1:T):EE F 215 [x0,x1] []=KK F (FF [.cell 4 6 true,.tmp 5] 0) [.code b215] ((S0.put 0 (.t x0)).put 1 (.t x1)):=EE_run (fn:=i215) (by kernel_rfl) rfl
theorem R216 (x0:T):EE F 216 [x0] []=KK F (FF [.tmp 2] 0) [.code b216] (S0.put 0 (.t x0)):=EE_run (fn:=i216) (by kernel_rfl) rfl
theorem R217 (x0 x1:T):EE F 217 [x0,x1] []=KK F (FF [.tmp 4,.tmp 5] 0) [.code b217] ((S0.put 0 (.t x0)).put 1 (.t x1)):=EE_run (fn:=i217) (by kernel_rfl) rfl
theorem R218 (x0 x1 x2:T):EE F 218 [x0,x1,x2] []=KK F (FF [.tmp 6,.tmp 7] 0) [.code b218] (((S0.put 0 (.t x0)).put 1 (.t x1)).put 2 (.t x2)):=EE_run (fn:=i218) (by kernel_rfl) rfl
theorem R221 (x0 x1:T):EE F 221 [x0,x1] []=KK F (FF [.tmp 4] 0) [.code b221] ((S0.put 0 (.t x0)).put 1 (.t x1)):=EE_run (fn:=i221) (by kernel_rfl) rfl
theorem R222 (x0 x1:T):EE F 222 [x0,x1] []=KK F (FF [.tmp 4] 0) [.code b222] ((S0.put 0 (.t x0)).put 1 (.t x1)):=EE_run (fn:=i222) (by kernel_rfl) rfl
theorem R223 (x0 x1:T):EE F 223 [x0,x1] []=KK F (FF [.tmp 4] 0) [.code b223] ((S0.put 0 (.t x0)).put 1 (.t x1)):=EE_run (fn:=i223) (by kernel_rfl) rfl
theorem R224 (x0:T):EE F 224 [x0] []=KK F (FF [.tmp 2] 0) [.code b224] (S0.put 0 (.t x0)):=EE_run (fn:=i224) (by kernel_rfl) rfl
theorem R225 (x0:T):EE F 225 [x0] []=KK F (FF [.tmp 2] 0) [.code b225] (S0.put 0 (.t x0)):=EE_run (fn:=i225) (by kernel_rfl) rfl
theorem R226 (x0 x1:T):EE F 226 [x0,x1] []=KK F (FF [.tmp 4] 0) [.code b226] ((S0.put 0 (.t x0)).put 1 (.t x1)):=EE_run (fn:=i226) (by kernel_rfl) rfl
theorem R227 (x0 x1:T):EE F 227 [x0,x1] []=KK F (FF [.cell 4 2 true,.cell 5 2 true,.tmp 6] 0) [.code b227] ((S0.put 0 (.t x0)).put 1 (.t x1)):=EE_run (fn:=i227) (by kernel_rfl) rfl
theorem R228 (x0 x1 x2:T):EE F 228 [x0,x1,x2] []=KK F (FF [.tmp 6] 0) [.code b228] (((S0.put 0 (.t x0)).put 1 (.t x1)).put 2 (.t x2)):=EE_run (fn:=i228) (by kernel_rfl) rfl
theorem R229 (x0 x1:T):EE F 229 [x0,x1] []=KK F (FF [.tmp 4] 0) [.code b229] ((S0.put 0 (.t x0)).put 1 (.t x1)):=EE_run (fn:=i229) (by kernel_rfl) rfl
theorem R230 (x0 x1:T):EE F 230 [x0,x1] []=KK F (FF [.tmp 4] 0) [.code b230] ((S0.put 0 (.t x0)).put 1 (.t x1)):=EE_run (fn:=i230) (by kernel_rfl) rfl
theorem R231 (x0 x1:T):EE F 231 [x0,x1] []=KK F (FF [.tmp 4] 0) [.code b231] ((S0.put 0 (.t x0)).put 1 (.t x1)):=EE_run (fn:=i231) (by kernel_rfl) rfl
theorem R243 (x0 x1:T):EE F 243 [x0,x1] []=KK F (FF [.tmp 4] 0) [.code b243] ((S0.put 0 (.t x0)).put 1 (.t x1)):=EE_run (fn:=i243) (by kernel_rfl) rfl
theorem R244 (x0:T):EE F 244 [x0] []=KK F (FF [.tmp 2] 0) [.code b244] (S0.put 0 (.t x0)):=EE_run (fn:=i244) (by kernel_rfl) rfl
theorem R245 (x0:T):EE F 245 [x0] []=KK F (FF [.tmp 2] 0) [.code b245] (S0.put 0 (.t x0)):=EE_run (fn:=i245) (by kernel_rfl) rfl
theorem R246 (x0 x1 x2:T):EE F 246 [x0,x1,x2] []=KK F (FF [] 0) [.code b246] (((S0.put 0 (.t x0)).put 1 (.t x1)).put 2 (.t x2)):=EE_run (fn:=i246) (by kernel_rfl) rfl
theorem R247 (x0:T):EE F 247 [x0] []=KK F (FF [.tmp 2] 0) [.code b247] (S0.put 0 (.t x0)):=EE_run (fn:=i247) (by kernel_rfl) rfl
theorem R248 (x0:T):EE F 248 [x0] []=KK F (FF [.tmp 2] 0) [.code b248] (S0.put 0 (.t x0)):=EE_run (fn:=i248) (by kernel_rfl) rfl
theorem R249 (x0:T):EE F 249 [x0] []=KK F (FF [.tmp 2] 0) [.code b249] (S0.put 0 (.t x0)):=EE_run (fn:=i249) (by kernel_rfl) rfl
theorem R250 (x0 x1:T):EE F 250 [x0,x1] []=KK F (FF [.cell 4 2 true,.tmp 5] 0) [.code b250] ((S0.put 0 (.t x0)).put 1 (.t x1)):=EE_run (fn:=i250) (by kernel_rfl) rfl
theorem R252 (x0 x1:T):EE F 252 [x0,x1] []=KK F (FF [.tmp 4] 0) [.code b252] ((S0.put 0 (.t x0)).put 1 (.t x1)):=EE_run (fn:=i252) (by kernel_rfl) rfl
theorem R253 (x0 x1:T):EE F 253 [x0,x1] []=KK F (FF [.tmp 4] 0) [.code b253] ((S0.put 0 (.t x0)).put 1 (.t x1)):=EE_run (fn:=i253) (by kernel_rfl) rfl
theorem R254 (x0 x1:T):EE F 254 [x0,x1] []=KK F (FF [.tmp 4] 0) [.code b254] ((S0.put 0 (.t x0)).put 1 (.t x1)):=EE_run (fn:=i254) (by kernel_rfl) rfl
theorem R255 (x0 x1:T):EE F 255 [x0,x1] []=KK F (FF [.tmp 4] 0) [.code b255] ((S0.put 0 (.t x0)).put 1 (.t x1)):=EE_run (fn:=i255) (by kernel_rfl) rfl
theorem R256 (x0 x1:T):EE F 256 [x0,x1] []=KK F (FF [.tmp 4] 0) [.code b256] ((S0.put 0 (.t x0)).put 1 (.t x1)):=EE_run (fn:=i256) (by kernel_rfl) rfl
theorem R257 (x0 x1:T):EE F 257 [x0,x1] []=KK F (FF [.tmp 4] 0) [.code b257] ((S0.put 0 (.t x0)).put 1 (.t x1)):=EE_run (fn:=i257) (by kernel_rfl) rfl
theorem R258 (x0 x1:T):EE F 258 [x0,x1] []=KK F (FF [.tmp 4] 0) [.code b258] ((S0.put 0 (.t x0)).put 1 (.t x1)):=EE_run (fn:=i258) (by kernel_rfl) rfl
theorem R259 (x0 x1:T):EE F 259 [x0,x1] []=KK F (FF [.cell 4 3 true] 0) [.code b259] ((S0.put 0 (.t x0)).put 1 (.t x1)):=EE_run (fn:=i259) (by kernel_rfl) rfl
theorem R260 (x0 x1:T):EE F 260 [x0,x1] []=KK F (FF [.tmp 4,.tmp 5] 0) [.code b260] ((S0.put 0 (.t x0)).put 1 (.t x1)):=EE_run (fn:=i260) (by kernel_rfl) rfl
theorem R261 (x0 x1:T):EE F 261 [x0,x1] []=KK F (FF [.tmp 4,.tmp 5] 0) [.code b261] ((S0.put 0 (.t x0)).put 1 (.t x1)):=EE_run (fn:=i261) (by kernel_rfl) rfl
theorem R262 (x0:T):EE F 262 [x0] []=KK F (FF [.cell 2 6 true] 0) [.code b262] (S0.put 0 (.t x0)):=EE_run (fn:=i262) (by kernel_rfl) rfl
theorem R263 (x0:T):EE F 263 [x0] []=KK F (FF [.cell 2 3 true] 0) [.code b263] (S0.put 0 (.t x0)):=EE_run (fn:=i263) (by kernel_rfl) rfl
theorem R264 (x0:T):EE F 264 [x0] []=KK F (FF [.tmp 2] 0) [.code b264] (S0.put 0 (.t x0)):=EE_run (fn:=i264) (by kernel_rfl) rfl
theorem R265 (x0:T):EE F 265 [x0] []=KK F (FF [.tmp 2] 0) [.code b265] (S0.put 0 (.t x0)):=EE_run (fn:=i265) (by kernel_rfl) rfl
theorem R266 (x0:T):EE F 266 [x0] []=KK F (FF [.tmp 2] 0) [.code b266] (S0.put 0 (.t x0)):=EE_run (fn:=i266) (by kernel_rfl) rfl
theorem R267 (x0:T):EE F 267 [x0] []=KK F (FF [.tmp 2] 0) [.code b267] (S0.put 0 (.t x0)):=EE_run (fn:=i267) (by kernel_rfl) rfl
theorem R268 (x0:T):EE F 268 [x0] []=KK F (FF [.cell 2 3 true] 0) [.code b268] (S0.put 0 (.t x0)):=EE_run (fn:=i268) (by kernel_rfl) rfl
theorem R269 (x0:T):EE F 269 [x0] []=KK F (FF [.tmp 2] 0) [.code b269] (S0.put 0 (.t x0)):=EE_run (fn:=i269) (by kernel_rfl) rfl
theorem R270 (x0 x1:T):EE F 270 [x0,x1] []=KK F (FF [.tmp 4,.tmp 5] 0) [.code b270] ((S0.put 0 (.t x0)).put 1 (.t x1)):=EE_run (fn:=i270) (by kernel_rfl) rfl
theorem R271 (x0 x1:T):EE F 271 [x0,x1] []=KK F (FF [.tmp 4] 0) [.code b271] ((S0.put 0 (.t x0)).put 1 (.t x1)):=EE_run (fn:=i271) (by kernel_rfl) rfl
theorem R272 (x0 x1:T):EE F 272 [x0,x1] []=KK F (FF [.tmp 4,.tmp 5] 0) [.code b272] ((S0.put 0 (.t x0)).put 1 (.t x1)):=EE_run (fn:=i272) (by kernel_rfl) rfl
theorem R273 (x0 x1:T):EE F 273 [x0,x1] []=KK F (FF [.tmp 4,.tmp 5] 0) [.code b273] ((S0.put 0 (.t x0)).put 1 (.t x1)):=EE_run (fn:=i273) (by kernel_rfl) rfl
theorem R274 (x0 x1 x2 x3:T):EE F 274 [x0,x1,x2,x3] []=KK F (FF [.tmp 8] 0) [.code b274] ((((S0.put 0 (.t x0)).put 1 (.t x1)).put 2 (.t x2)).put 3 (.t x3)):=EE_run (fn:=i274) (by kernel_rfl) rfl
theorem R275 (x0 x1:T):EE F 275 [x0,x1] []=KK F (FF [.tmp 4] 0) [.code b275] ((S0.put 0 (.t x0)).put 1 (.t x1)):=EE_run (fn:=i275) (by kernel_rfl) rfl
theorem R276 (x0 x1:T):EE F 276 [x0,x1] []=KK F (FF [.tmp 4] 0) [.code b276] ((S0.put 0 (.t x0)).put 1 (.t x1)):=EE_run (fn:=i276) (by kernel_rfl) rfl
theorem R277 (x0 x1:T):EE F 277 [x0,x1] []=KK F (FF [.tmp 4] 0) [.code b277] ((S0.put 0 (.t x0)).put 1 (.t x1)):=EE_run (fn:=i277) (by kernel_rfl) rfl
theorem R278 (x0 x1:T):EE F 278 [x0,x1] []=KK F (FF [.tmp 4] 0) [.code b278] ((S0.put 0 (.t x0)).put 1 (.t x1)):=EE_run (fn:=i278) (by kernel_rfl) rfl
theorem R279 (x0 x1:T):EE F 279 [x0,x1] []=KK F (FF [.tmp 4] 0) [.code b279] ((S0.put 0 (.t x0)).put 1 (.t x1)):=EE_run (fn:=i279) (by kernel_rfl) rfl
theorem R280 (x0 x1:T):EE F 280 [x0,x1] []=KK F (FF [.tmp 4] 0) [.code b280] ((S0.put 0 (.t x0)).put 1 (.t x1)):=EE_run (fn:=i280) (by kernel_rfl) rfl
theorem R281 (x0 x1:T):EE F 281 [x0,x1] []=KK F (FF [.tmp 4] 0) [.code b281] ((S0.put 0 (.t x0)).put 1 (.t x1)):=EE_run (fn:=i281) (by kernel_rfl) rfl
theorem R296 (x0 x1:T):EE F 296 [x0,x1] []=KK F (FF [.tmp 4] 0) [.code b296] ((S0.put 0 (.t x0)).put 1 (.t x1)):=EE_run (fn:=i296) (by kernel_rfl) rfl
theorem R297 (x0 x1 x2 x3:T):EE F 297 [x0,x1,x2,x3] []=KK F (FF [] 0) [.code b297] ((((S0.put 0 (.t x0)).put 1 (.t x1)).put 2 (.t x2)).put 3 (.t x3)):=EE_run (fn:=i297) (by kernel_rfl) rfl
theorem R298 (x0 x1 x2 x3 x4:T):EE F 298 [x0,x1,x2,x3,x4] []=KK F (FF [] 0) [.code b298] (((((S0.put 0 (.t x0)).put 1 (.t x1)).put 2 (.t x2)).put 3 (.t x3)).put 4 (.t x4)):=EE_run (fn:=i298) (by kernel_rfl) rfl
theorem R299 (x0 x1:T):EE F 299 [x0,x1] []=KK F (FF [.tmp 4] 0) [.code b299] ((S0.put 0 (.t x0)).put 1 (.t x1)):=EE_run (fn:=i299) (by kernel_rfl) rfl
theorem R300 (x0 x1:T):EE F 300 [x0,x1] []=KK F (FF [.tmp 4] 0) [.code b300] ((S0.put 0 (.t x0)).put 1 (.t x1)):=EE_run (fn:=i300) (by kernel_rfl) rfl
theorem R301 (x0 x1:T):EE F 301 [x0,x1] []=KK F (FF [.tmp 4] 0) [.code b301] ((S0.put 0 (.t x0)).put 1 (.t x1)):=EE_run (fn:=i301) (by kernel_rfl) rfl
theorem R302 (x0 x1:T):EE F 302 [x0,x1] []=KK F (FF [.tmp 4] 0) [.code b302] ((S0.put 0 (.t x0)).put 1 (.t x1)):=EE_run (fn:=i302) (by kernel_rfl) rfl
theorem R303 (x0 x1:T):EE F 303 [x0,x1] []=KK F (FF [.tmp 4] 0) [.code b303] ((S0.put 0 (.t x0)).put 1 (.t x1)):=EE_run (fn:=i303) (by kernel_rfl) rfl
theorem R304 (x0 x1:T):EE F 304 [x0,x1] []=KK F (FF [.tmp 4] 0) [.code b304] ((S0.put 0 (.t x0)).put 1 (.t x1)):=EE_run (fn:=i304) (by kernel_rfl) rfl
theorem R305 (x0 x1:T):EE F 305 [x0,x1] []=KK F (FF [.tmp 4] 0) [.code b305] ((S0.put 0 (.t x0)).put 1 (.t x1)):=EE_run (fn:=i305) (by kernel_rfl) rfl
theorem R306 (x0:T):EE F 306 [x0] []=KK F (FF [.tmp 2] 0) [.code b306] (S0.put 0 (.t x0)):=EE_run (fn:=i306) (by kernel_rfl) rfl
theorem R307 (x0:T):EE F 307 [x0] []=KK F (FF [.tmp 2] 0) [.code b307] (S0.put 0 (.t x0)):=EE_run (fn:=i307) (by kernel_rfl) rfl
theorem R308 (x0:T):EE F 308 [x0] []=KK F (FF [.tmp 2] 0) [.code b308] (S0.put 0 (.t x0)):=EE_run (fn:=i308) (by kernel_rfl) rfl
theorem R309 (x0:T):EE F 309 [x0] []=KK F (FF [.cell 2 5 true] 0) [.code b309] (S0.put 0 (.t x0)):=EE_run (fn:=i309) (by kernel_rfl) rfl
theorem R310 (x0:T):EE F 310 [x0] []=KK F (FF [.cell 2 7 true] 0) [.code b310] (S0.put 0 (.t x0)):=EE_run (fn:=i310) (by kernel_rfl) rfl
theorem R311 (x0:T):EE F 311 [x0] []=KK F (FF [.cell 2 7 true] 0) [.code b311] (S0.put 0 (.t x0)):=EE_run (fn:=i311) (by kernel_rfl) rfl
theorem R312 (x0 x1 x2:T):EE F 312 [x0,x1,x2] []=KK F (FF [.tmp 6,.tmp 7] 0) [.code b312] (((S0.put 0 (.t x0)).put 1 (.t x1)).put 2 (.t x2)):=EE_run (fn:=i312) (by kernel_rfl) rfl
theorem R313 (x0 x1:T):EE F 313 [x0,x1] []=KK F (FF [.tmp 4] 0) [.code b313] ((S0.put 0 (.t x0)).put 1 (.t x1)):=EE_run (fn:=i313) (by kernel_rfl) rfl
theorem R314 (x0 x1:T):EE F 314 [x0,x1] []=KK F (FF [.tmp 4] 0) [.code b314] ((S0.put 0 (.t x0)).put 1 (.t x1)):=EE_run (fn:=i314) (by kernel_rfl) rfl
theorem R315 (x0 x1 x2 x3:T):EE F 315 [x0,x1,x2,x3] []=KK F (FF [.tmp 8] 0) [.code b315] ((((S0.put 0 (.t x0)).put 1 (.t x1)).put 2 (.t x2)).put 3 (.t x3)):=EE_run (fn:=i315) (by kernel_rfl) rfl
theorem R316 (x0 x1:T):EE F 316 [x0,x1] []=KK F (FF [.tmp 4] 0) [.code b316] ((S0.put 0 (.t x0)).put 1 (.t x1)):=EE_run (fn:=i316) (by kernel_rfl) rfl
theorem R317 (x0 x1:T):EE F 317 [x0,x1] []=KK F (FF [.tmp 4] 0) [.code b317] ((S0.put 0 (.t x0)).put 1 (.t x1)):=EE_run (fn:=i317) (by kernel_rfl) rfl
theorem R318 (x0 x1:T):EE F 318 [x0,x1] []=KK F (FF [.tmp 4] 0) [.code b318] ((S0.put 0 (.t x0)).put 1 (.t x1)):=EE_run (fn:=i318) (by kernel_rfl) rfl
theorem R319 (x0 x1:T):EE F 319 [x0,x1] []=KK F (FF [.tmp 4] 0) [.code b319] ((S0.put 0 (.t x0)).put 1 (.t x1)):=EE_run (fn:=i319) (by kernel_rfl) rfl
theorem R320 (x0 x1:T):EE F 320 [x0,x1] []=KK F (FF [.tmp 4] 0) [.code b320] ((S0.put 0 (.t x0)).put 1 (.t x1)):=EE_run (fn:=i320) (by kernel_rfl) rfl
theorem R335 (x0 x1 x2 x3 x4:T):EE F 335 [x0,x1,x2,x3,x4] []=KK F (FF [] 0) [.code b335] (((((S0.put 0 (.t x0)).put 1 (.t x1)).put 2 (.t x2)).put 3 (.t x3)).put 4 (.t x4)):=EE_run (fn:=i335) (by kernel_rfl) rfl
theorem R336 (x0 x1:T):EE F 336 [x0,x1] []=KK F (FF [.tmp 4] 0) [.code b336] ((S0.put 0 (.t x0)).put 1 (.t x1)):=EE_run (fn:=i336) (by kernel_rfl) rfl
theorem R337 (x0 x1:T):EE F 337 [x0,x1] []=KK F (FF [.tmp 4] 0) [.code b337] ((S0.put 0 (.t x0)).put 1 (.t x1)):=EE_run (fn:=i337) (by kernel_rfl) rfl
theorem R338 (x0 x1:T):EE F 338 [x0,x1] []=KK F (FF [.tmp 4] 0) [.code b338] ((S0.put 0 (.t x0)).put 1 (.t x1)):=EE_run (fn:=i338) (by kernel_rfl) rfl
theorem R339 (x0:T):EE F 339 [x0] []=KK F (FF [.cell 2 2 true] 0) [.code b339] (S0.put 0 (.t x0)):=EE_run (fn:=i339) (by kernel_rfl) rfl
theorem R340 (x0:T):EE F 340 [x0] []=KK F (FF [.cell 2 3 true] 0) [.code b340] (S0.put 0 (.t x0)):=EE_run (fn:=i340) (by kernel_rfl) rfl
theorem R341 (x0:T):EE F 341 [x0] []=KK F (FF [.tmp 2] 0) [.code b341] (S0.put 0 (.t x0)):=EE_run (fn:=i341) (by kernel_rfl) rfl
theorem R342 (x0:T):EE F 342 [x0] []=KK F (FF [.cell 2 6 true] 0) [.code b342] (S0.put 0 (.t x0)):=EE_run (fn:=i342) (by kernel_rfl) rfl
theorem R343 (x0:T):EE F 343 [x0] []=KK F (FF [.tmp 2] 0) [.code b343] (S0.put 0 (.t x0)):=EE_run (fn:=i343) (by kernel_rfl) rfl
theorem R344 (x0 x1:T):EE F 344 [x0,x1] []=KK F (FF [.tmp 4] 0) [.code b344] ((S0.put 0 (.t x0)).put 1 (.t x1)):=EE_run (fn:=i344) (by kernel_rfl) rfl
theorem R345 (x0 x1:T):EE F 345 [x0,x1] []=KK F (FF [.tmp 4] 0) [.code b345] ((S0.put 0 (.t x0)).put 1 (.t x1)):=EE_run (fn:=i345) (by kernel_rfl) rfl
theorem R346 (x0 x1:T):EE F 346 [x0,x1] []=KK F (FF [.tmp 4] 0) [.code b346] ((S0.put 0 (.t x0)).put 1 (.t x1)):=EE_run (fn:=i346) (by kernel_rfl) rfl
theorem R357 (x0 x1 x2 x3 x4:T):EE F 357 [x0,x1,x2,x3,x4] []=KK F (FF [] 0) [.code b357] (((((S0.put 0 (.t x0)).put 1 (.t x1)).put 2 (.t x2)).put 3 (.t x3)).put 4 (.t x4)):=EE_run (fn:=i357) (by kernel_rfl) rfl
end Go.Proofs.YtfajcehhcjmofaaGreatV
