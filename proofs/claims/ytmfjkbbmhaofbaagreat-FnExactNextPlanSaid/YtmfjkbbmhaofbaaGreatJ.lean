/- The table of functions, and that each stands for the program's. -/
import Derived.Test.YtmfjkbbmhaofbaaGreatV27
import Derived.Test.YtmfjkbbmhaofbaaGreatS3
import Derived.Test.YtmfjkbbmhaofbaaGreatJ0
import Derived.Test.YtmfjkbbmhaofbaaGreatProg
import Derived.KernelRfl
namespace Go.Proofs.YtmfjkbbmhaofbaaGreatV
open Go
def tab:List (Nat×IFn):=[(9,i9),(14,i14),(16,i16),(18,i18),(23,i23),(24,i24),(26,i26),(32,i32),(37,i37),(40,i40),(41,i41),(44,i44),(47,i47),(48,i48),(54,i54),(56,i56),(61,i61),(62,i62),(63,i63),(64,i64),(65,i65),(66,i66),(67,i67),(68,i68),(69,i69),(70,i70),(71,i71),(73,i73),(74,i74),(75,i75),(79,i79),(82,i82),(83,i83),(90,i90),(91,i91),(92,i92),(93,i93),(94,i94),(97,i97),(98,i98),(99,i99),(100,i100),(110,i110),(113,i113),(114,i114),(115,i115),(116,i116),(117,i117),(118,i118),(119,i119),(120,i120),(121,i121),(122,i122),(123,i123),(124,i124),(125,i125),(126,i126),(127,i127),(128,i128),(129,i129),(130,i130),(131,i131),(134,i134),(135,i135),(136,i136),(144,i144),(145,i145),(146,i146),(147,i147),(148,i148),(150,i150),(154,i154),(155,i155),(156,i156),(157,i157),(158,i158),(159,i159),(160,i160),(161,i161),(162,i162),(163,i163),(164,i164),(165,i165),(166,i166),(167,i167),(168,i168),(169,i169),(171,i171),(175,i175),(179,i179),(180,i180),(183,i183),(184,i184),(185,i185),(186,i186),(187,i187),(188,i188),(189,i189),(190,i190),(191,i191),(192,i192),(193,i193),(194,i194),(195,i195),(196,i196),(197,i197),(198,i198),(199,i199),(200,i200),(201,i201),(202,i202),(203,i203),(204,i204),(205,i205),(206,i206),(207,i207),(209,i209),(210,i210),(211,i211),(213,i213),(214,i214),(215,i215),(216,i216),(217,i217),(218,i218),(219,i219),(220,i220),(221,i221),(222,i222),(223,i223),(224,i224),(225,i225),(226,i226),(227,i227),(228,i228),(229,i229),(230,i230),(231,i231),(232,i232),(234,i234),(235,i235),(236,i236),(237,i237),(239,i239),(241,i241),(242,i242),(243,i243),(244,i244),(245,i245),(246,i246),(247,i247),(248,i248),(249,i249),(250,i250),(251,i251),(252,i252),(253,i253),(254,i254),(255,i255),(256,i256),(257,i257),(258,i258),(259,i259),(260,i260),(261,i261),(262,i262),(263,i263),(264,i264),(265,i265),(266,i266),(267,i267),(268,i268),(269,i269),(270,i270),(271,i271),(272,i272),(273,i273),(274,i274),(275,i275),(276,i276),(277,i277),(278,i278),(279,i279),(280,i280),(281,i281),(282,i282),(283,i283),(284,i284),(285,i285),(286,i286),(287,i287),(288,i288),(289,i289),(290,i290),(291,i291),(292,i292),(293,i293),(294,i294),(295,i295),(296,i296),(297,i297),(298,i298),(299,i299),(300,i300),(301,i301),(302,i302),(303,i303),(304,i304),(305,i305),(306,i306),(307,i307),(308,i308),(309,i309),(310,i310)]
def F (f:Nat):Option IFn:=tab.lookup f
theorem ZNc:tab.all (fun q=>Zfs Zi Tryz.prog q.1 q.2)=true:=by kernel_rfl
theorem ZLA {l:List (Nat×IFn)} {p:Nat→IFn→Prop} (h:∀ q,q∈l→p q.1 q.2) {f:Nat} {i:IFn} (hf:l.lookup f=some i):p f i:=by
 induction l with
 | nil=>simp at hf
 | cons q l ih=>
  obtain ⟨g,j⟩:=q
  simp only[List.lookup_cons] at hf
  split at hf
  ·rename_i he
   simp only[beq_iff_eq] at he
   cases hf
   subst he
   exact h (f,i) (List.mem_cons_self ..)
  ·exact ih (fun q hq=>h q (List.mem_cons_of_mem _ hq)) hf
theorem hF (f:Nat) (i:IFn) (hf:F f=some i):Zfs Zi Tryz.prog f i=true:=
 ZLA (p:=fun f i=>Zfs Zi Tryz.prog f i=true) (fun q hq=>List.all_eq_true.1 ZNc q hq) hf
theorem ZL5:Zad Tryz.prog (EE F):=Zhr (Zhq (by kernel_rfl)) hF
theorem R9 (x0:T):EE F 9 [x0] []=KK F (FF [.tmp 2] 0) [.code b9] (S0.put 0 (.t x0)):=EE_run (fn:=i9) (by kernel_rfl) rfl
theorem R14 (x0 x1:T):EE F 14 [x0,x1] []=KK F (FF [.tmp 4] 0) [.code b14] ((S0.put 0 (.t x0)).put 1 (.t x1)):=EE_run (fn:=i14) (by kernel_rfl) rfl
theorem R16 (x0:T):EE F 16 [x0] []=KK F (FF [.cell 2 12 true] 0) [.code b16] (S0.put 0 (.t x0)):=EE_run (fn:=i16) (by kernel_rfl) rfl
theorem R18 (x0 x1:T):EE F 18 [x0,x1] []=KK F (FF [.tmp 4] 0) [.code b18] ((S0.put 0 (.t x0)).put 1 (.t x1)):=EE_run (fn:=i18) (by kernel_rfl) rfl
theorem R23 (x0 x1:T):EE F 23 [x0,x1] []=KK F (FF [.tmp 4] 0) [.code b23] ((S0.put 0 (.t x0)).put 1 (.t x1)):=EE_run (fn:=i23) (by kernel_rfl) rfl
theorem R24 (x0:T):EE F 24 [x0] []=KK F (FF [.tmp 2] 0) [.code b24] (S0.put 0 (.t x0)):=EE_run (fn:=i24) (by kernel_rfl) rfl
theorem R26 (x0 x1:T):EE F 26 [x0,x1] []=KK F (FF [.tmp 4] 0) [.code b26] ((S0.put 0 (.t x0)).put 1 (.t x1)):=EE_run (fn:=i26) (by kernel_rfl) rfl
theorem R32 (x0 x1:T):EE F 32 [x0,x1] []=KK F (FF [.tmp 4] 0) [.code b32] ((S0.put 0 (.t x0)).put 1 (.t x1)):=EE_run (fn:=i32) (by kernel_rfl) rfl
theorem R37 (x0 x1:T):EE F 37 [x0,x1] []=KK F (FF [.tmp 4] 0) [.code b37] ((S0.put 0 (.t x0)).put 1 (.t x1)):=EE_run (fn:=i37) (by kernel_rfl) rfl
theorem R40 (x0:T):EE F 40 [x0] []=KK F (FF [.cell 2 7 true,.tmp 3] 0) [.code b40] (S0.put 0 (.t x0)):=EE_run (fn:=i40) (by kernel_rfl) rfl
theorem R41 (x0:T):EE F 41 [x0] []=KK F (FF [.cell 2 7 true,.tmp 3] 0) [.code b41] (S0.put 0 (.t x0)):=EE_run (fn:=i41) (by kernel_rfl) rfl
theorem R44 (x0 x1:T):EE F 44 [x0,x1] []=KK F (FF [.tmp 4] 0) [.code b44] ((S0.put 0 (.t x0)).put 1 (.t x1)):=EE_run (fn:=i44) (by kernel_rfl) rfl
theorem R47 (x0:T):EE F 47 [x0] []=KK F (FF [.tmp 2] 0) [.code b47] (S0.put 0 (.t x0)):=EE_run (fn:=i47) (by kernel_rfl) rfl
theorem R48 (x0:T):EE F 48 [x0] []=KK F (FF [.tmp 2] 0) [.code b48] (S0.put 0 (.t x0)):=EE_run (fn:=i48) (by kernel_rfl) rfl
theorem R54 (x0 x1:T):EE F 54 [x0,x1] []=KK F (FF [.tmp 4] 0) [.code b54] ((S0.put 0 (.t x0)).put 1 (.t x1)):=EE_run (fn:=i54) (by kernel_rfl) rfl
theorem R56 (x0:T):EE F 56 [x0] []=KK F (FF [.cell 2 2 true] 0) [.code b56] (S0.put 0 (.t x0)):=EE_run (fn:=i56) (by kernel_rfl) rfl
theorem R61 (x0 x1:T):EE F 61 [x0,x1] []=KK F (FF [.tmp 4] 0) [.code b61] ((S0.put 0 (.t x0)).put 1 (.t x1)):=EE_run (fn:=i61) (by kernel_rfl) rfl
theorem R62 (x0 x1:T):EE F 62 [x0,x1] []=KK F (FF [.tmp 4] 0) [.code b62] ((S0.put 0 (.t x0)).put 1 (.t x1)):=EE_run (fn:=i62) (by kernel_rfl) rfl
theorem R63 (x0 x1:T):EE F 63 [x0,x1] []=KK F (FF [.tmp 4] 0) [.code b63] ((S0.put 0 (.t x0)).put 1 (.t x1)):=EE_run (fn:=i63) (by kernel_rfl) rfl
theorem R64 (x0 x1:T):EE F 64 [x0,x1] []=KK F (FF [.tmp 4] 0) [.code b64] ((S0.put 0 (.t x0)).put 1 (.t x1)):=EE_run (fn:=i64) (by kernel_rfl) rfl
theorem R65 (x0:T):EE F 65 [x0] []=KK F (FF [.tmp 2] 0) [.code b65] (S0.put 0 (.t x0)):=EE_run (fn:=i65) (by kernel_rfl) rfl
theorem R66 (x0 x1 x2:T):EE F 66 [x0,x1,x2] []=KK F (FF [.tmp 6] 0) [.code b66] (((S0.put 0 (.t x0)).put 1 (.t x1)).put 2 (.t x2)):=EE_run (fn:=i66) (by kernel_rfl) rfl
theorem R67 (x0:T):EE F 67 [x0] []=KK F (FF [.tmp 2] 0) [.code b67] (S0.put 0 (.t x0)):=EE_run (fn:=i67) (by kernel_rfl) rfl
theorem R68 (x0:T):EE F 68 [x0] []=KK F (FF [.tmp 2] 0) [.code b68] (S0.put 0 (.t x0)):=EE_run (fn:=i68) (by kernel_rfl) rfl
theorem R69 (x0:T):EE F 69 [x0] []=KK F (FF [.tmp 2] 0) [.code b69] (S0.put 0 (.t x0)):=EE_run (fn:=i69) (by kernel_rfl) rfl
theorem R70 (x0:T):EE F 70 [x0] []=KK F (FF [.cell 2 7 true] 0) [.code b70] (S0.put 0 (.t x0)):=EE_run (fn:=i70) (by kernel_rfl) rfl
theorem R71 (x0:T):EE F 71 [x0] []=KK F (FF [.tmp 2] 0) [.code b71] (S0.put 0 (.t x0)):=EE_run (fn:=i71) (by kernel_rfl) rfl
theorem R73 (x0 x1:T):EE F 73 [x0,x1] []=KK F (FF [.tmp 4] 0) [.code b73] ((S0.put 0 (.t x0)).put 1 (.t x1)):=EE_run (fn:=i73) (by kernel_rfl) rfl
theorem R74 (x0 x1:T):EE F 74 [x0,x1] []=KK F (FF [.tmp 4] 0) [.code b74] ((S0.put 0 (.t x0)).put 1 (.t x1)):=EE_run (fn:=i74) (by kernel_rfl) rfl
theorem R75 (x0 x1:T):EE F 75 [x0,x1] []=KK F (FF [.tmp 4] 0) [.code b75] ((S0.put 0 (.t x0)).put 1 (.t x1)):=EE_run (fn:=i75) (by kernel_rfl) rfl
theorem R79 (x0:T):EE F 79 [x0] []=KK F (FF [.tmp 2] 0) [.code b79] (S0.put 0 (.t x0)):=EE_run (fn:=i79) (by kernel_rfl) rfl
theorem R82 (x0:T):EE F 82 [x0] []=KK F (FF [.tmp 2] 0) [.code b82] (S0.put 0 (.t x0)):=EE_run (fn:=i82) (by kernel_rfl) rfl
theorem R83 (x0 x1:T):EE F 83 [x0,x1] []=KK F (FF [.tmp 4] 0) [.code b83] ((S0.put 0 (.t x0)).put 1 (.t x1)):=EE_run (fn:=i83) (by kernel_rfl) rfl
theorem R90 (x0 x1:T):EE F 90 [x0,x1] []=KK F (FF [.tmp 4] 0) [.code b90] ((S0.put 0 (.t x0)).put 1 (.t x1)):=EE_run (fn:=i90) (by kernel_rfl) rfl
theorem R91 (x0:T):EE F 91 [x0] []=KK F (FF [.tmp 2] 0) [.code b91] (S0.put 0 (.t x0)):=EE_run (fn:=i91) (by kernel_rfl) rfl
theorem R92 (x0 x1:T):EE F 92 [x0,x1] []=KK F (FF [.tmp 4] 0) [.code b92] ((S0.put 0 (.t x0)).put 1 (.t x1)):=EE_run (fn:=i92) (by kernel_rfl) rfl
theorem R93 (x0:T):EE F 93 [x0] []=KK F (FF [.tmp 2] 0) [.code b93] (S0.put 0 (.t x0)):=EE_run (fn:=i93) (by kernel_rfl) rfl
theorem R94 (x0 x1:T):EE F 94 [x0,x1] []=KK F (FF [.tmp 4] 0) [.code b94] ((S0.put 0 (.t x0)).put 1 (.t x1)):=EE_run (fn:=i94) (by kernel_rfl) rfl
theorem R97 (x0 x1:T):EE F 97 [x0,x1] []=KK F (FF [.tmp 4] 0) [.code b97] ((S0.put 0 (.t x0)).put 1 (.t x1)):=EE_run (fn:=i97) (by kernel_rfl) rfl
theorem R98 (x0:T):EE F 98 [x0] []=KK F (FF [.celld 2 6 true] 0) [.code b98] (S0.put 0 (.t x0)):=EE_run (fn:=i98) (by kernel_rfl) rfl
theorem R99 (x0:T):EE F 99 [x0] []=KK F (FF [.cell 2 6 true] 0) [.code b99] (S0.put 0 (.t x0)):=EE_run (fn:=i99) (by kernel_rfl) rfl
theorem R100 (x0 x1:T):EE F 100 [x0,x1] []=KK F (FF [.tmp 4] 0) [.code b100] ((S0.put 0 (.t x0)).put 1 (.t x1)):=EE_run (fn:=i100) (by kernel_rfl) rfl
theorem R110 (x0:T):EE F 110 [x0] []=KK F (FF [.tmp 2] 0) [.code b110] (S0.put 0 (.t x0)):=EE_run (fn:=i110) (by kernel_rfl) rfl
theorem R113 (x0 x1:T):EE F 113 [x0,x1] []=KK F (FF [.tmp 4] 0) [.code b113] ((S0.put 0 (.t x0)).put 1 (.t x1)):=EE_run (fn:=i113) (by kernel_rfl) rfl
theorem R114 (x0 x1:T):EE F 114 [x0,x1] []=KK F (FF [.tmp 4] 0) [.code b114] ((S0.put 0 (.t x0)).put 1 (.t x1)):=EE_run (fn:=i114) (by kernel_rfl) rfl
theorem R115 (x0 x1:T):EE F 115 [x0,x1] []=KK F (FF [.tmp 4] 0) [.code b115] ((S0.put 0 (.t x0)).put 1 (.t x1)):=EE_run (fn:=i115) (by kernel_rfl) rfl
theorem R116 (x0 x1:T):EE F 116 [x0,x1] []=KK F (FF [.tmp 4] 0) [.code b116] ((S0.put 0 (.t x0)).put 1 (.t x1)):=EE_run (fn:=i116) (by kernel_rfl) rfl
theorem R117 (x0:T):EE F 117 [x0] []=KK F (FF [.tmp 2] 0) [.code b117] (S0.put 0 (.t x0)):=EE_run (fn:=i117) (by kernel_rfl) rfl
theorem R118 (x0:T):EE F 118 [x0] []=KK F (FF [.tmp 2] 0) [.code b118] (S0.put 0 (.t x0)):=EE_run (fn:=i118) (by kernel_rfl) rfl
theorem R119 (x0:T):EE F 119 [x0] []=KK F (FF [.tmp 2] 0) [.code b119] (S0.put 0 (.t x0)):=EE_run (fn:=i119) (by kernel_rfl) rfl
theorem R120 (x0:T):EE F 120 [x0] []=KK F (FF [.tmp 2] 0) [.code b120] (S0.put 0 (.t x0)):=EE_run (fn:=i120) (by kernel_rfl) rfl
theorem R121 (x0:T):EE F 121 [x0] []=KK F (FF [.cell 2 14 true] 0) [.code b121] (S0.put 0 (.t x0)):=EE_run (fn:=i121) (by kernel_rfl) rfl
theorem R122 (x0:T):EE F 122 [x0] []=KK F (FF [.cell 2 8 true] 0) [.code b122] (S0.put 0 (.t x0)):=EE_run (fn:=i122) (by kernel_rfl) rfl
theorem R123 (x0:T):EE F 123 [x0] []=KK F (FF [.cell 2 9 true] 0) [.code b123] (S0.put 0 (.t x0)):=EE_run (fn:=i123) (by kernel_rfl) rfl
theorem R124 (x0:T):EE F 124 [x0] []=KK F (FF [.tmp 2] 0) [.code b124] (S0.put 0 (.t x0)):=EE_run (fn:=i124) (by kernel_rfl) rfl
theorem R125 (x0 x1:T):EE F 125 [x0,x1] []=KK F (FF [.tmp 4] 0) [.code b125] ((S0.put 0 (.t x0)).put 1 (.t x1)):=EE_run (fn:=i125) (by kernel_rfl) rfl
theorem R126 (x0:T):EE F 126 [x0] []=KK F (FF [.tmp 2] 0) [.code b126] (S0.put 0 (.t x0)):=EE_run (fn:=i126) (by kernel_rfl) rfl
theorem R127 (x0:T):EE F 127 [x0] []=KK F (FF [.tmp 2] 0) [.code b127] (S0.put 0 (.t x0)):=EE_run (fn:=i127) (by kernel_rfl) rfl
theorem R128 (x0:T):EE F 128 [x0] []=KK F (FF [.tmp 2] 0) [.code b128] (S0.put 0 (.t x0)):=EE_run (fn:=i128) (by kernel_rfl) rfl
theorem R129 (x0:T):EE F 129 [x0] []=KK F (FF [.tmp 2] 0) [.code b129] (S0.put 0 (.t x0)):=EE_run (fn:=i129) (by kernel_rfl) rfl
theorem R130 (x0:T):EE F 130 [x0] []=KK F (FF [.tmp 2] 0) [.code b130] (S0.put 0 (.t x0)):=EE_run (fn:=i130) (by kernel_rfl) rfl
theorem R131 (x0:T):EE F 131 [x0] []=KK F (FF [.tmp 2] 0) [.code b131] (S0.put 0 (.t x0)):=EE_run (fn:=i131) (by kernel_rfl) rfl
theorem R134 (x0 x1:T):EE F 134 [x0,x1] []=KK F (FF [.tmp 4] 0) [.code b134] ((S0.put 0 (.t x0)).put 1 (.t x1)):=EE_run (fn:=i134) (by kernel_rfl) rfl
theorem R135 (x0 x1:T):EE F 135 [x0,x1] []=KK F (FF [.tmp 4] 0) [.code b135] ((S0.put 0 (.t x0)).put 1 (.t x1)):=EE_run (fn:=i135) (by kernel_rfl) rfl
theorem R136 (x0 x1:T):EE F 136 [x0,x1] []=KK F (FF [.tmp 4] 0) [.code b136] ((S0.put 0 (.t x0)).put 1 (.t x1)):=EE_run (fn:=i136) (by kernel_rfl) rfl
theorem R144 (x0:T):EE F 144 [x0] []=KK F (FF [.tmp 2] 0) [.code b144] (S0.put 0 (.t x0)):=EE_run (fn:=i144) (by kernel_rfl) rfl
theorem R145 (x0 x1:T):EE F 145 [x0,x1] []=KK F (FF [] 0) [.code b145] ((S0.put 0 (.t x0)).put 1 (.t x1)):=EE_run (fn:=i145) (by kernel_rfl) rfl
theorem R146 (x0 x1:T):EE F 146 [x0,x1] []=KK F (FF [.tmp 4] 0) [.code b146] ((S0.put 0 (.t x0)).put 1 (.t x1)):=EE_run (fn:=i146) (by kernel_rfl) rfl
theorem R147 (x0 x1:T):EE F 147 [x0,x1] []=KK F (FF [.tmp 4] 0) [.code b147] ((S0.put 0 (.t x0)).put 1 (.t x1)):=EE_run (fn:=i147) (by kernel_rfl) rfl
theorem R148 (x0:T):EE F 148 [x0] []=KK F (FF [.tmp 2] 0) [.code b148] (S0.put 0 (.t x0)):=EE_run (fn:=i148) (by kernel_rfl) rfl
theorem R150 (x0 x1:T):EE F 150 [x0,x1] []=KK F (FF [.tmp 4] 0) [.code b150] ((S0.put 0 (.t x0)).put 1 (.t x1)):=EE_run (fn:=i150) (by kernel_rfl) rfl
theorem R154 (x0 x1:T):EE F 154 [x0,x1] []=KK F (FF [.tmp 4] 0) [.code b154] ((S0.put 0 (.t x0)).put 1 (.t x1)):=EE_run (fn:=i154) (by kernel_rfl) rfl
theorem R155 (x0:T):EE F 155 [x0] []=KK F (FF [.tmp 2] 0) [.code b155] (S0.put 0 (.t x0)):=EE_run (fn:=i155) (by kernel_rfl) rfl
theorem R156 (x0:T):EE F 156 [x0] []=KK F (FF [.tmp 2] 0) [.code b156] (S0.put 0 (.t x0)):=EE_run (fn:=i156) (by kernel_rfl) rfl
theorem R157 (x0 x1:T):EE F 157 [x0,x1] []=KK F (FF [.cell 4 2 true,.tmp 5] 0) [.code b157] ((S0.put 0 (.t x0)).put 1 (.t x1)):=EE_run (fn:=i157) (by kernel_rfl) rfl
theorem R158 (x0:T):EE F 158 [x0] []=KK F (FF [.tmp 2] 0) [.code b158] (S0.put 0 (.t x0)):=EE_run (fn:=i158) (by kernel_rfl) rfl
theorem R159 (x0:T):EE F 159 [x0] []=KK F (FF [.tmp 2] 0) [.code b159] (S0.put 0 (.t x0)):=EE_run (fn:=i159) (by kernel_rfl) rfl
theorem R160 (x0 x1:T):EE F 160 [x0,x1] []=KK F (FF [.cell 4 2 true,.tmp 5] 0) [.code b160] ((S0.put 0 (.t x0)).put 1 (.t x1)):=EE_run (fn:=i160) (by kernel_rfl) rfl
theorem R161 (x0:T):EE F 161 [x0] []=KK F (FF [.tmp 2] 0) [.code b161] (S0.put 0 (.t x0)):=EE_run (fn:=i161) (by kernel_rfl) rfl
theorem R162 (x0:T):EE F 162 [x0] []=KK F (FF [.tmp 2] 0) [.code b162] (S0.put 0 (.t x0)):=EE_run (fn:=i162) (by kernel_rfl) rfl
theorem R163 (x0:T):EE F 163 [x0] []=KK F (FF [.tmp 2] 0) [.code b163] (S0.put 0 (.t x0)):=EE_run (fn:=i163) (by kernel_rfl) rfl
theorem R164 (x0 x1:T):EE F 164 [x0,x1] []=KK F (FF [.cell 4 6 true,.tmp 5] 0) [.code b164] ((S0.put 0 (.t x0)).put 1 (.t x1)):=EE_run (fn:=i164) (by kernel_rfl) rfl
theorem R165 (x0:T):EE F 165 [x0] []=KK F (FF [.tmp 2] 0) [.code b165] (S0.put 0 (.t x0)):=EE_run (fn:=i165) (by kernel_rfl) rfl
theorem R166 (x0 x1:T):EE F 166 [x0,x1] []=KK F (FF [.cell 4 6 true,.tmp 5] 0) [.code b166] ((S0.put 0 (.t x0)).put 1 (.t x1)):=EE_run (fn:=i166) (by kernel_rfl) rfl
theorem R167 (x0:T):EE F 167 [x0] []=KK F (FF [.tmp 2] 0) [.code b167] (S0.put 0 (.t x0)):=EE_run (fn:=i167) (by kernel_rfl) rfl
theorem R168 (x0 x1:T):EE F 168 [x0,x1] []=KK F (FF [.tmp 4] 0) [.code b168] ((S0.put 0 (.t x0)).put 1 (.t x1)):=EE_run (fn:=i168) (by kernel_rfl) rfl
theorem R169 (x0:T):EE F 169 [x0] []=KK F (FF [.tmp 2] 0) [.code b169] (S0.put 0 (.t x0)):=EE_run (fn:=i169) (by kernel_rfl) rfl
theorem R171 (x0 x1:T):EE F 171 [x0,x1] []=KK F (FF [.tmp 4] 0) [.code b171] ((S0.put 0 (.t x0)).put 1 (.t x1)):=EE_run (fn:=i171) (by kernel_rfl) rfl
theorem R175 (x0:T):EE F 175 [x0] []=KK F (FF [.tmp 2] 0) [.code b175] (S0.put 0 (.t x0)):=EE_run (fn:=i175) (by kernel_rfl) rfl
theorem R179 (x0:T):EE F 179 [x0] []=KK F (FF [.tmp 2] 0) [.code b179] (S0.put 0 (.t x0)):=EE_run (fn:=i179) (by kernel_rfl) rfl
theorem R180 (x0:T):EE F 180 [x0] []=KK F (FF [.tmp 2] 0) [.code b180] (S0.put 0 (.t x0)):=EE_run (fn:=i180) (by kernel_rfl) rfl
theorem R183 (x0 x1:T):EE F 183 [x0,x1] []=KK F (FF [.tmp 4] 0) [.code b183] ((S0.put 0 (.t x0)).put 1 (.t x1)):=EE_run (fn:=i183) (by kernel_rfl) rfl
theorem R184 (x0 x1:T):EE F 184 [x0,x1] []=KK F (FF [.tmp 4] 0) [.code b184] ((S0.put 0 (.t x0)).put 1 (.t x1)):=EE_run (fn:=i184) (by kernel_rfl) rfl
theorem R185 (x0 x1:T):EE F 185 [x0,x1] []=KK F (FF [.tmp 4] 0) [.code b185] ((S0.put 0 (.t x0)).put 1 (.t x1)):=EE_run (fn:=i185) (by kernel_rfl) rfl
theorem R186 (x0:T):EE F 186 [x0] []=KK F (FF [.tmp 2] 0) [.code b186] (S0.put 0 (.t x0)):=EE_run (fn:=i186) (by kernel_rfl) rfl
theorem R187 (x0:T):EE F 187 [x0] []=KK F (FF [.tmp 2] 0) [.code b187] (S0.put 0 (.t x0)):=EE_run (fn:=i187) (by kernel_rfl) rfl
theorem R188 (x0:T):EE F 188 [x0] []=KK F (FF [.tmp 2] 0) [.code b188] (S0.put 0 (.t x0)):=EE_run (fn:=i188) (by kernel_rfl) rfl
theorem R189 (x0:T):EE F 189 [x0] []=KK F (FF [.tmp 2] 0) [.code b189] (S0.put 0 (.t x0)):=EE_run (fn:=i189) (by kernel_rfl) rfl
theorem R190 (x0:T):EE F 190 [x0] []=KK F (FF [.tmp 2] 0) [.code b190] (S0.put 0 (.t x0)):=EE_run (fn:=i190) (by kernel_rfl) rfl
theorem R191 (x0:T):EE F 191 [x0] []=KK F (FF [.cell 2 13 true] 0) [.code b191] (S0.put 0 (.t x0)):=EE_run (fn:=i191) (by kernel_rfl) rfl
theorem R192 (x0:T):EE F 192 [x0] []=KK F (FF [.tmp 2] 0) [.code b192] (S0.put 0 (.t x0)):=EE_run (fn:=i192) (by kernel_rfl) rfl
theorem R193 (x0:T):EE F 193 [x0] []=KK F (FF [.cell 2 4 true] 0) [.code b193] (S0.put 0 (.t x0)):=EE_run (fn:=i193) (by kernel_rfl) rfl
theorem R194 (x0:T):EE F 194 [x0] []=KK F (FF [.tmp 2] 0) [.code b194] (S0.put 0 (.t x0)):=EE_run (fn:=i194) (by kernel_rfl) rfl
theorem R195 (x0:T):EE F 195 [x0] []=KK F (FF [.tmp 2] 0) [.code b195] (S0.put 0 (.t x0)):=EE_run (fn:=i195) (by kernel_rfl) rfl
theorem R196 (x0:T):EE F 196 [x0] []=KK F (FF [.tmp 2] 0) [.code b196] (S0.put 0 (.t x0)):=EE_run (fn:=i196) (by kernel_rfl) rfl
theorem R197 (x0:T):EE F 197 [x0] []=KK F (FF [.tmp 2] 0) [.code b197] (S0.put 0 (.t x0)):=EE_run (fn:=i197) (by kernel_rfl) rfl
theorem R198 (x0:T):EE F 198 [x0] []=KK F (FF [.tmp 2] 0) [.code b198] (S0.put 0 (.t x0)):=EE_run (fn:=i198) (by kernel_rfl) rfl
theorem R199 (x0:T):EE F 199 [x0] []=KK F (FF [.tmp 2] 0) [.code b199] (S0.put 0 (.t x0)):=EE_run (fn:=i199) (by kernel_rfl) rfl
theorem R200 (x0:T):EE F 200 [x0] []=KK F (FF [.tmp 2] 0) [.code b200] (S0.put 0 (.t x0)):=EE_run (fn:=i200) (by kernel_rfl) rfl
theorem R201 (x0:T):EE F 201 [x0] []=KK F (FF [.tmp 2] 0) [.code b201] (S0.put 0 (.t x0)):=EE_run (fn:=i201) (by kernel_rfl) rfl
theorem R202 (x0:T):EE F 202 [x0] []=KK F (FF [.tmp 2] 0) [.code b202] (S0.put 0 (.t x0)):=EE_run (fn:=i202) (by kernel_rfl) rfl
theorem R203 (x0:T):EE F 203 [x0] []=KK F (FF [.tmp 2] 0) [.code b203] (S0.put 0 (.t x0)):=EE_run (fn:=i203) (by kernel_rfl) rfl
theorem R204 (x0:T):EE F 204 [x0] []=KK F (FF [.tmp 2] 0) [.code b204] (S0.put 0 (.t x0)):=EE_run (fn:=i204) (by kernel_rfl) rfl
theorem R205 (x0:T):EE F 205 [x0] []=KK F (FF [.tmp 2] 0) [.code b205] (S0.put 0 (.t x0)):=EE_run (fn:=i205) (by kernel_rfl) rfl
theorem R206 (x0 x1:T):EE F 206 [x0,x1] []=KK F (FF [.tmp 4] 0) [.code b206] ((S0.put 0 (.t x0)).put 1 (.t x1)):=EE_run (fn:=i206) (by kernel_rfl) rfl
theorem R207 (x0 x1:T):EE F 207 [x0,x1] []=KK F (FF [.tmp 4] 0) [.code b207] ((S0.put 0 (.t x0)).put 1 (.t x1)):=EE_run (fn:=i207) (by kernel_rfl) rfl
theorem R209 (x0 x1 x2:T):EE F 209 [x0,x1,x2] []=KK F (FF [] 0) [.code b209] (((S0.put 0 (.t x0)).put 1 (.t x1)).put 2 (.t x2)):=EE_run (fn:=i209) (by kernel_rfl) rfl
theorem R210 (x0:T):EE F 210 [x0] []=KK F (FF [.tmp 2] 0) [.code b210] (S0.put 0 (.t x0)):=EE_run (fn:=i210) (by kernel_rfl) rfl
theorem R211 (x0 x1:T):EE F 211 [x0,x1] []=KK F (FF [.tmp 4] 0) [.code b211] ((S0.put 0 (.t x0)).put 1 (.t x1)):=EE_run (fn:=i211) (by kernel_rfl) rfl
theorem R213 (x0:T):EE F 213 [x0] []=KK F (FF [.tmp 2] 0) [.code b213] (S0.put 0 (.t x0)):=EE_run (fn:=i213) (by kernel_rfl) rfl
theorem R214 (x0:T):EE F 214 [x0] []=KK F (FF [.tmp 2] 0) [.code b214] (S0.put 0 (.t x0)):=EE_run (fn:=i214) (by kernel_rfl) rfl
theorem R215 (x0 x1:T):EE F 215 [x0,x1] []=KK F (FF [.tmp 4] 0) [.code b215] ((S0.put 0 (.t x0)).put 1 (.t x1)):=EE_run (fn:=i215) (by kernel_rfl) rfl
theorem R216 (x0 x1:T):EE F 216 [x0,x1] []=KK F (FF [.cell 4 2 true,.cell 5 2 true,.tmp 6] 0) [.code b216] ((S0.put 0 (.t x0)).put 1 (.t x1)):=EE_run (fn:=i216) (by kernel_rfl) rfl
theorem R217 (x0:T):EE F 217 [x0] []=KK F (FF [.tmp 2] 0) [.code b217] (S0.put 0 (.t x0)):=EE_run (fn:=i217) (by kernel_rfl) rfl
theorem R218 (x0:T):EE F 218 [x0] []=KK F (FF [.tmp 2] 0) [.code b218] (S0.put 0 (.t x0)):=EE_run (fn:=i218) (by kernel_rfl) rfl
theorem R219 (x0 x1:T):EE F 219 [x0,x1] []=KK F (FF [.tmp 4] 0) [.code b219] ((S0.put 0 (.t x0)).put 1 (.t x1)):=EE_run (fn:=i219) (by kernel_rfl) rfl
theorem R220 (x0 x1:T):EE F 220 [x0,x1] []=KK F (FF [.cell 4 2 true,.cell 5 2 true,.tmp 6] 0) [.code b220] ((S0.put 0 (.t x0)).put 1 (.t x1)):=EE_run (fn:=i220) (by kernel_rfl) rfl
theorem R221 (x0:T):EE F 221 [x0] []=KK F (FF [.tmp 2] 0) [.code b221] (S0.put 0 (.t x0)):=EE_run (fn:=i221) (by kernel_rfl) rfl
theorem R222 (x0:T):EE F 222 [x0] []=KK F (FF [.tmp 2] 0) [.code b222] (S0.put 0 (.t x0)):=EE_run (fn:=i222) (by kernel_rfl) rfl
theorem R223 (x0:T):EE F 223 [x0] []=KK F (FF [.cell 2 6 true] 0) [.code b223] (S0.put 0 (.t x0)):=EE_run (fn:=i223) (by kernel_rfl) rfl
theorem R224 (x0 x1:T):EE F 224 [x0,x1] []=KK F (FF [.cell 4 6 true,.tmp 5] 0) [.code b224] ((S0.put 0 (.t x0)).put 1 (.t x1)):=EE_run (fn:=i224) (by kernel_rfl) rfl
theorem R225 (x0:T):EE F 225 [x0] []=KK F (FF [.tmp 2] 0) [.code b225] (S0.put 0 (.t x0)):=EE_run (fn:=i225) (by kernel_rfl) rfl
theorem R226 (x0:T):EE F 226 [x0] []=KK F (FF [.cell 2 6 true] 0) [.code b226] (S0.put 0 (.t x0)):=EE_run (fn:=i226) (by kernel_rfl) rfl
theorem R227 (x0 x1:T):EE F 227 [x0,x1] []=KK F (FF [.cell 4 6 true,.tmp 5] 0) [.code b227] ((S0.put 0 (.t x0)).put 1 (.t x1)):=EE_run (fn:=i227) (by kernel_rfl) rfl
theorem R228 (x0 x1:T):EE F 228 [x0,x1] []=KK F (FF [.tmp 4] 0) [.code b228] ((S0.put 0 (.t x0)).put 1 (.t x1)):=EE_run (fn:=i228) (by kernel_rfl) rfl
theorem R229 (x0:T):EE F 229 [x0] []=KK F (FF [.tmp 2] 0) [.code b229] (S0.put 0 (.t x0)):=EE_run (fn:=i229) (by kernel_rfl) rfl
theorem R230 (x0 x1:T):EE F 230 [x0,x1] []=KK F (FF [.tmp 4,.tmp 5] 0) [.code b230] ((S0.put 0 (.t x0)).put 1 (.t x1)):=EE_run (fn:=i230) (by kernel_rfl) rfl
theorem R231 (x0 x1 x2:T):EE F 231 [x0,x1,x2] []=KK F (FF [.tmp 6,.tmp 7] 0) [.code b231] (((S0.put 0 (.t x0)).put 1 (.t x1)).put 2 (.t x2)):=EE_run (fn:=i231) (by kernel_rfl) rfl
theorem R232 (x0 x1:T):EE F 232 [x0,x1] []=KK F (FF [.tmp 4] 0) [.code b232] ((S0.put 0 (.t x0)).put 1 (.t x1)):=EE_run (fn:=i232) (by kernel_rfl) rfl
theorem R234 (x0:T):EE F 234 [x0] []=KK F (FF [.tmp 2] 0) [.code b234] (S0.put 0 (.t x0)):=EE_run (fn:=i234) (by kernel_rfl) rfl
theorem R235 (x0 x1:T):EE F 235 [x0,x1] []=KK F (FF [.tmp 4] 0) [.code b235] ((S0.put 0 (.t x0)).put 1 (.t x1)):=EE_run (fn:=i235) (by kernel_rfl) rfl
theorem R236 (x0 x1:T):EE F 236 [x0,x1] []=KK F (FF [.tmp 4,.tmp 5] 0) [.code b236] ((S0.put 0 (.t x0)).put 1 (.t x1)):=EE_run (fn:=i236) (by kernel_rfl) rfl
theorem R237 (x0 x1 x2:T):EE F 237 [x0,x1,x2] []=KK F (FF [.tmp 6,.tmp 7] 0) [.code b237] (((S0.put 0 (.t x0)).put 1 (.t x1)).put 2 (.t x2)):=EE_run (fn:=i237) (by kernel_rfl) rfl
theorem R239 (x0:T):EE F 239 [x0] []=KK F (FF [.tmp 2] 0) [.code b239] (S0.put 0 (.t x0)):=EE_run (fn:=i239) (by kernel_rfl) rfl
theorem R241 (x0 x1:T):EE F 241 [x0,x1] []=KK F (FF [.tmp 4,.tmp 5] 0) [.code b241] ((S0.put 0 (.t x0)).put 1 (.t x1)):=EE_run (fn:=i241) (by kernel_rfl) rfl
theorem R242 (x0:T):EE F 242 [x0] []=KK F (FF [.tmp 2] 0) [.code b242] (S0.put 0 (.t x0)):=EE_run (fn:=i242) (by kernel_rfl) rfl
theorem R243 (x0 x1:T):EE F 243 [x0,x1] []=KK F (FF [.tmp 4] 0) [.code b243] ((S0.put 0 (.t x0)).put 1 (.t x1)):=EE_run (fn:=i243) (by kernel_rfl) rfl
theorem R244 (x0 x1:T):EE F 244 [x0,x1] []=KK F (FF [.tmp 4] 0) [.code b244] ((S0.put 0 (.t x0)).put 1 (.t x1)):=EE_run (fn:=i244) (by kernel_rfl) rfl
theorem R245 (x0 x1:T):EE F 245 [x0,x1] []=KK F (FF [.tmp 4] 0) [.code b245] ((S0.put 0 (.t x0)).put 1 (.t x1)):=EE_run (fn:=i245) (by kernel_rfl) rfl
theorem R246 (x0 x1:T):EE F 246 [x0,x1] []=KK F (FF [.tmp 4] 0) [.code b246] ((S0.put 0 (.t x0)).put 1 (.t x1)):=EE_run (fn:=i246) (by kernel_rfl) rfl
theorem R247 (x0 x1:T):EE F 247 [x0,x1] []=KK F (FF [.tmp 4] 0) [.code b247] ((S0.put 0 (.t x0)).put 1 (.t x1)):=EE_run (fn:=i247) (by kernel_rfl) rfl
theorem R248 (x0 x1:T):EE F 248 [x0,x1] []=KK F (FF [.tmp 4] 0) [.code b248] ((S0.put 0 (.t x0)).put 1 (.t x1)):=EE_run (fn:=i248) (by kernel_rfl) rfl
theorem R249 (x0 x1:T):EE F 249 [x0,x1] []=KK F (FF [.tmp 4] 0) [.code b249] ((S0.put 0 (.t x0)).put 1 (.t x1)):=EE_run (fn:=i249) (by kernel_rfl) rfl
theorem R250 (x0:T):EE F 250 [x0] []=KK F (FF [.tmp 2] 0) [.code b250] (S0.put 0 (.t x0)):=EE_run (fn:=i250) (by kernel_rfl) rfl
theorem R251 (x0:T):EE F 251 [x0] []=KK F (FF [.tmp 2] 0) [.code b251] (S0.put 0 (.t x0)):=EE_run (fn:=i251) (by kernel_rfl) rfl
theorem R252 (x0:T):EE F 252 [x0] []=KK F (FF [.cell 2 6 true] 0) [.code b252] (S0.put 0 (.t x0)):=EE_run (fn:=i252) (by kernel_rfl) rfl
theorem R253 (x0:T):EE F 253 [x0] []=KK F (FF [.cell 2 3 true] 0) [.code b253] (S0.put 0 (.t x0)):=EE_run (fn:=i253) (by kernel_rfl) rfl
theorem R254 (x0:T):EE F 254 [x0] []=KK F (FF [.tmp 2] 0) [.code b254] (S0.put 0 (.t x0)):=EE_run (fn:=i254) (by kernel_rfl) rfl
theorem R255 (x0:T):EE F 255 [x0] []=KK F (FF [.tmp 2] 0) [.code b255] (S0.put 0 (.t x0)):=EE_run (fn:=i255) (by kernel_rfl) rfl
theorem R256 (x0:T):EE F 256 [x0] []=KK F (FF [.tmp 2] 0) [.code b256] (S0.put 0 (.t x0)):=EE_run (fn:=i256) (by kernel_rfl) rfl
theorem R257 (x0:T):EE F 257 [x0] []=KK F (FF [.tmp 2] 0) [.code b257] (S0.put 0 (.t x0)):=EE_run (fn:=i257) (by kernel_rfl) rfl
theorem R258 (x0:T):EE F 258 [x0] []=KK F (FF [.cell 2 3 true] 0) [.code b258] (S0.put 0 (.t x0)):=EE_run (fn:=i258) (by kernel_rfl) rfl
theorem R259 (x0:T):EE F 259 [x0] []=KK F (FF [.tmp 2] 0) [.code b259] (S0.put 0 (.t x0)):=EE_run (fn:=i259) (by kernel_rfl) rfl
theorem R260 (x0:T):EE F 260 [x0] []=KK F (FF [.tmp 2] 0) [.code b260] (S0.put 0 (.t x0)):=EE_run (fn:=i260) (by kernel_rfl) rfl
theorem R261 (x0 x1:T):EE F 261 [x0,x1] []=KK F (FF [.tmp 4] 0) [.code b261] ((S0.put 0 (.t x0)).put 1 (.t x1)):=EE_run (fn:=i261) (by kernel_rfl) rfl
theorem R262 (x0 x1:T):EE F 262 [x0,x1] []=KK F (FF [.tmp 4] 0) [.code b262] ((S0.put 0 (.t x0)).put 1 (.t x1)):=EE_run (fn:=i262) (by kernel_rfl) rfl
theorem R263 (x0 x1:T):EE F 263 [x0,x1] []=KK F (FF [.tmp 4] 0) [.code b263] ((S0.put 0 (.t x0)).put 1 (.t x1)):=EE_run (fn:=i263) (by kernel_rfl) rfl
theorem R264 (x0 x1:T):EE F 264 [x0,x1] []=KK F (FF [.tmp 4] 0) [.code b264] ((S0.put 0 (.t x0)).put 1 (.t x1)):=EE_run (fn:=i264) (by kernel_rfl) rfl
theorem R265 (x0 x1:T):EE F 265 [x0,x1] []=KK F (FF [.tmp 4] 0) [.code b265] ((S0.put 0 (.t x0)).put 1 (.t x1)):=EE_run (fn:=i265) (by kernel_rfl) rfl
theorem R266 (x0 x1 x2 x3:T):EE F 266 [x0,x1,x2,x3] []=KK F (FF [] 0) [.code b266] ((((S0.put 0 (.t x0)).put 1 (.t x1)).put 2 (.t x2)).put 3 (.t x3)):=EE_run (fn:=i266) (by kernel_rfl) rfl
theorem R267 (x0 x1 x2 x3 x4:T):EE F 267 [x0,x1,x2,x3,x4] []=KK F (FF [] 0) [.code b267] (((((S0.put 0 (.t x0)).put 1 (.t x1)).put 2 (.t x2)).put 3 (.t x3)).put 4 (.t x4)):=EE_run (fn:=i267) (by kernel_rfl) rfl
theorem R268 (x0 x1:T):EE F 268 [x0,x1] []=KK F (FF [.tmp 4] 0) [.code b268] ((S0.put 0 (.t x0)).put 1 (.t x1)):=EE_run (fn:=i268) (by kernel_rfl) rfl
theorem R269 (x0:T):EE F 269 [x0] []=KK F (FF [.tmp 2] 0) [.code b269] (S0.put 0 (.t x0)):=EE_run (fn:=i269) (by kernel_rfl) rfl
theorem R270 (x0 x1:T):EE F 270 [x0,x1] []=KK F (FF [.cell 4 3 true] 0) [.code b270] ((S0.put 0 (.t x0)).put 1 (.t x1)):=EE_run (fn:=i270) (by kernel_rfl) rfl
theorem R271 (x0 x1:T):EE F 271 [x0,x1] []=KK F (FF [.tmp 4,.tmp 5] 0) [.code b271] ((S0.put 0 (.t x0)).put 1 (.t x1)):=EE_run (fn:=i271) (by kernel_rfl) rfl
theorem R272 (x0 x1:T):EE F 272 [x0,x1] []=KK F (FF [.tmp 4,.tmp 5] 0) [.code b272] ((S0.put 0 (.t x0)).put 1 (.t x1)):=EE_run (fn:=i272) (by kernel_rfl) rfl
theorem R273 (x0:T):EE F 273 [x0] []=KK F (FF [.tmp 2] 0) [.code b273] (S0.put 0 (.t x0)):=EE_run (fn:=i273) (by kernel_rfl) rfl
theorem R274 (x0 x1:T):EE F 274 [x0,x1] []=KK F (FF [.tmp 4,.tmp 5] 0) [.code b274] ((S0.put 0 (.t x0)).put 1 (.t x1)):=EE_run (fn:=i274) (by kernel_rfl) rfl
theorem R275 (x0 x1:T):EE F 275 [x0,x1] []=KK F (FF [.tmp 4] 0) [.code b275] ((S0.put 0 (.t x0)).put 1 (.t x1)):=EE_run (fn:=i275) (by kernel_rfl) rfl
theorem R276 (x0 x1:T):EE F 276 [x0,x1] []=KK F (FF [.tmp 4,.tmp 5] 0) [.code b276] ((S0.put 0 (.t x0)).put 1 (.t x1)):=EE_run (fn:=i276) (by kernel_rfl) rfl
theorem R277 (x0 x1:T):EE F 277 [x0,x1] []=KK F (FF [.tmp 4,.tmp 5] 0) [.code b277] ((S0.put 0 (.t x0)).put 1 (.t x1)):=EE_run (fn:=i277) (by kernel_rfl) rfl
theorem R278 (x0 x1 x2 x3:T):EE F 278 [x0,x1,x2,x3] []=KK F (FF [.tmp 8] 0) [.code b278] ((((S0.put 0 (.t x0)).put 1 (.t x1)).put 2 (.t x2)).put 3 (.t x3)):=EE_run (fn:=i278) (by kernel_rfl) rfl
theorem R279 (x0 x1 x2:T):EE F 279 [x0,x1,x2] []=KK F (FF [.tmp 6,.tmp 7] 0) [.code b279] (((S0.put 0 (.t x0)).put 1 (.t x1)).put 2 (.t x2)):=EE_run (fn:=i279) (by kernel_rfl) rfl
theorem R280 (x0 x1:T):EE F 280 [x0,x1] []=KK F (FF [.tmp 4] 0) [.code b280] ((S0.put 0 (.t x0)).put 1 (.t x1)):=EE_run (fn:=i280) (by kernel_rfl) rfl
theorem R281 (x0 x1:T):EE F 281 [x0,x1] []=KK F (FF [.tmp 4] 0) [.code b281] ((S0.put 0 (.t x0)).put 1 (.t x1)):=EE_run (fn:=i281) (by kernel_rfl) rfl
theorem R282 (x0 x1:T):EE F 282 [x0,x1] []=KK F (FF [.tmp 4] 0) [.code b282] ((S0.put 0 (.t x0)).put 1 (.t x1)):=EE_run (fn:=i282) (by kernel_rfl) rfl
theorem R283 (x0 x1:T):EE F 283 [x0,x1] []=KK F (FF [.tmp 4] 0) [.code b283] ((S0.put 0 (.t x0)).put 1 (.t x1)):=EE_run (fn:=i283) (by kernel_rfl) rfl
theorem R284 (x0 x1:T):EE F 284 [x0,x1] []=KK F (FF [.tmp 4] 0) [.code b284] ((S0.put 0 (.t x0)).put 1 (.t x1)):=EE_run (fn:=i284) (by kernel_rfl) rfl
theorem R285 (x0 x1:T):EE F 285 [x0,x1] []=KK F (FF [.tmp 4] 0) [.code b285] ((S0.put 0 (.t x0)).put 1 (.t x1)):=EE_run (fn:=i285) (by kernel_rfl) rfl
theorem R286 (x0 x1:T):EE F 286 [x0,x1] []=KK F (FF [.tmp 4] 0) [.code b286] ((S0.put 0 (.t x0)).put 1 (.t x1)):=EE_run (fn:=i286) (by kernel_rfl) rfl
theorem R287 (x0:T):EE F 287 [x0] []=KK F (FF [.tmp 2] 0) [.code b287] (S0.put 0 (.t x0)):=EE_run (fn:=i287) (by kernel_rfl) rfl
theorem R288 (x0:T):EE F 288 [x0] []=KK F (FF [.tmp 2] 0) [.code b288] (S0.put 0 (.t x0)):=EE_run (fn:=i288) (by kernel_rfl) rfl
theorem R289 (x0:T):EE F 289 [x0] []=KK F (FF [.tmp 2] 0) [.code b289] (S0.put 0 (.t x0)):=EE_run (fn:=i289) (by kernel_rfl) rfl
theorem R290 (x0:T):EE F 290 [x0] []=KK F (FF [.cell 2 5 true] 0) [.code b290] (S0.put 0 (.t x0)):=EE_run (fn:=i290) (by kernel_rfl) rfl
theorem R291 (x0:T):EE F 291 [x0] []=KK F (FF [.cell 2 7 true] 0) [.code b291] (S0.put 0 (.t x0)):=EE_run (fn:=i291) (by kernel_rfl) rfl
theorem R292 (x0:T):EE F 292 [x0] []=KK F (FF [.cell 2 7 true] 0) [.code b292] (S0.put 0 (.t x0)):=EE_run (fn:=i292) (by kernel_rfl) rfl
theorem R293 (x0 x1:T):EE F 293 [x0,x1] []=KK F (FF [.tmp 4] 0) [.code b293] ((S0.put 0 (.t x0)).put 1 (.t x1)):=EE_run (fn:=i293) (by kernel_rfl) rfl
theorem R294 (x0 x1:T):EE F 294 [x0,x1] []=KK F (FF [.tmp 4] 0) [.code b294] ((S0.put 0 (.t x0)).put 1 (.t x1)):=EE_run (fn:=i294) (by kernel_rfl) rfl
theorem R295 (x0 x1 x2 x3 x4:T):EE F 295 [x0,x1,x2,x3,x4] []=KK F (FF [] 0) [.code b295] (((((S0.put 0 (.t x0)).put 1 (.t x1)).put 2 (.t x2)).put 3 (.t x3)).put 4 (.t x4)):=EE_run (fn:=i295) (by kernel_rfl) rfl
theorem R296 (x0 x1:T):EE F 296 [x0,x1] []=KK F (FF [.tmp 4] 0) [.code b296] ((S0.put 0 (.t x0)).put 1 (.t x1)):=EE_run (fn:=i296) (by kernel_rfl) rfl
theorem R297 (x0 x1 x2:T):EE F 297 [x0,x1,x2] []=KK F (FF [.tmp 6,.tmp 7] 0) [.code b297] (((S0.put 0 (.t x0)).put 1 (.t x1)).put 2 (.t x2)):=EE_run (fn:=i297) (by kernel_rfl) rfl
theorem R298 (x0 x1:T):EE F 298 [x0,x1] []=KK F (FF [.tmp 4] 0) [.code b298] ((S0.put 0 (.t x0)).put 1 (.t x1)):=EE_run (fn:=i298) (by kernel_rfl) rfl
theorem R299 (x0 x1:T):EE F 299 [x0,x1] []=KK F (FF [.tmp 4] 0) [.code b299] ((S0.put 0 (.t x0)).put 1 (.t x1)):=EE_run (fn:=i299) (by kernel_rfl) rfl
theorem R300 (x0 x1 x2 x3:T):EE F 300 [x0,x1,x2,x3] []=KK F (FF [.tmp 8] 0) [.code b300] ((((S0.put 0 (.t x0)).put 1 (.t x1)).put 2 (.t x2)).put 3 (.t x3)):=EE_run (fn:=i300) (by kernel_rfl) rfl
theorem R301 (x0 x1:T):EE F 301 [x0,x1] []=KK F (FF [.tmp 4] 0) [.code b301] ((S0.put 0 (.t x0)).put 1 (.t x1)):=EE_run (fn:=i301) (by kernel_rfl) rfl
theorem R302 (x0 x1:T):EE F 302 [x0,x1] []=KK F (FF [.tmp 4] 0) [.code b302] ((S0.put 0 (.t x0)).put 1 (.t x1)):=EE_run (fn:=i302) (by kernel_rfl) rfl
theorem R303 (x0 x1:T):EE F 303 [x0,x1] []=KK F (FF [.tmp 4] 0) [.code b303] ((S0.put 0 (.t x0)).put 1 (.t x1)):=EE_run (fn:=i303) (by kernel_rfl) rfl
theorem R304 (x0:T):EE F 304 [x0] []=KK F (FF [.cell 2 2 true] 0) [.code b304] (S0.put 0 (.t x0)):=EE_run (fn:=i304) (by kernel_rfl) rfl
theorem R305 (x0:T):EE F 305 [x0] []=KK F (FF [.cell 2 3 true] 0) [.code b305] (S0.put 0 (.t x0)):=EE_run (fn:=i305) (by kernel_rfl) rfl
theorem R306 (x0:T):EE F 306 [x0] []=KK F (FF [.tmp 2] 0) [.code b306] (S0.put 0 (.t x0)):=EE_run (fn:=i306) (by kernel_rfl) rfl
theorem R307 (x0:T):EE F 307 [x0] []=KK F (FF [.cell 2 6 true] 0) [.code b307] (S0.put 0 (.t x0)):=EE_run (fn:=i307) (by kernel_rfl) rfl
theorem R308 (x0 x1:T):EE F 308 [x0,x1] []=KK F (FF [.tmp 4] 0) [.code b308] ((S0.put 0 (.t x0)).put 1 (.t x1)):=EE_run (fn:=i308) (by kernel_rfl) rfl
theorem R309 (x0 x1 x2 x3 x4:T):EE F 309 [x0,x1,x2,x3,x4] []=KK F (FF [] 0) [.code b309] (((((S0.put 0 (.t x0)).put 1 (.t x1)).put 2 (.t x2)).put 3 (.t x3)).put 4 (.t x4)):=EE_run (fn:=i309) (by kernel_rfl) rfl
theorem R310 (x0:T):EE F 310 [x0] []=KK F (FF [.tmp 2] 0) [.code b310] (S0.put 0 (.t x0)):=EE_run (fn:=i310) (by kernel_rfl) rfl
end Go.Proofs.YtmfjkbbmhaofbaaGreatV
