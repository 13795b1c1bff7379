/- A part of the proof that the named laws of this program answer true, whatever the input. -/
import Derived.Test.YtcnejdpagpafgaaGraphF
set_option maxRecDepth 100000
set_option linter.unusedVariables false
namespace Go.Proofs
open Go.Lift
/-- quickset/quicksetlaw20.GraphChains -/
def F_l20_GraphChains (x0 : Int) (x1 : Int) (x2 : Int) (x3 : Int) (x4 : Int) (K : (Bool) → Heap → Prop) (h0 : Heap) : Prop :=
  HC PG f_l20_awake [] [.c .bool] (fun (e1 : Bool) h2 =>
   CondP (!e1) (
    K false h2) (
    HC PG f_graph_New [] [.c .ptr] (fun (e3 : Option Addr) h4 =>
     ((20 : Int) ≠ 0 ∧
      ((IntKind.wrap .u32 (2 + (IntKind.wrap .u32 (Int.tmod x0 20)))) ≠ 0 ∧
       Bd (Int.tmod (IntKind.wrap .u32 x1) (IntKind.wrap .u32 (2 + (IntKind.wrap .u32 (Int.tmod x0 20)))) : Int) (fun n5 =>
        LoopP (fun I6 (t7 : Int) h8 => -- (38)
         CondP (decide (t7 < (IntKind.wrap .u32 (2 + (IntKind.wrap .u32 (Int.tmod x0 20)))))) (
          Join (fun (t15 : Unit) h16 => -- 
           I6 (IntKind.wrap .u32 (t7 + 1)) h16) (fun J9 =>
           CondP (t7 == (0 : Int)) (
            HC PG f_graph_Graph_Add [.pointer e3, .slice none 0 0] [.c (.int .u32), .c (.int .i64)] (fun (e10 : Int × Int) h11 =>
             J9 () h11) h8) (
            At (hnew h8 [.int .u32 t7] t_u32) (fun h12 =>
             HC PG f_graph_Graph_Add [.pointer e3, .slice (some (newA h8)) 1 1] [.c (.int .u32), .c (.int .i64)] (fun (e13 : Int × Int) h14 =>
              J9 () h14) h12)))) (
          ((10 : Int) ≠ 0 ∧
           LoopP (fun I17 (t18 : Int × SliceV × Int) h19 => -- last(15), side(16), (55)
            CondP (decide (t18.2.2 < (IntKind.wrap .i64 (1 + (IntKind.wrap .i64 (Int.tmod x2 10)))))) (
             Join (fun (t28 : Int × SliceV) h29 => -- last(15), side(16)
              I17 (t28.1, t28.2, IntKind.wrap .i64 (t18.2.2 + 1)) h29) (fun J20 =>
              At (hnew h19 [.int .u32 t18.1] t_u32) (fun h21 =>
               HC PG f_graph_Graph_Add [.pointer e3, .slice (some (newA h19)) 1 1] [.c (.int .u32), .c (.int .i64)] (fun (e22 : Int × Int) h23 =>
                CondP (e22.2 != (0 : Int)) (
                 K false h23) (
                 At (hnew h23 [.int .u32 e22.1] t_u32) (fun h24 =>
                  ∃ xs25, SRow h24 (some (newA h23)) (1 * 1) xs25 ∧
                  AppP (some [.int .u32 0]) 1 4 t_u32 t18.2.1.a t18.2.1.len t18.2.1.cap 1 xs25 h24 (fun s26 h27 =>
                   J20 (e22.1, s26) h27)))) h21))) (
             ((IntKind.wrap .u32 (2 + (IntKind.wrap .u32 (Int.tmod x0 20)))) ≠ 0 ∧
              Bd (Int.tmod (IntKind.wrap .u32 x3) (IntKind.wrap .u32 (2 + (IntKind.wrap .u32 (Int.tmod x0 20)))) : Int) (fun n30 =>
               ((t18.2.1.len : Int) ≠ 0 ∧
                (((0 : Int) ≤ (Int.tmod (IntKind.wrap .i64 x4) (t18.2.1.len : Int)) ∧ (Int.tmod (IntKind.wrap .i64 x4) (t18.2.1.len : Int)) < ((t18.2.1.len : Nat) : Int)) ∧ ∃ a31 : Addr, t18.2.1.a = some a31 ∧
                 ∃ v32 : Int, hcell h19 (adr a31 ((Int.tmod (IntKind.wrap .i64 x4) (t18.2.1.len : Int)).toNat * 1)) = some (.int .u32 v32) ∧
                 HC PG f_graph_Graph_Meet [.pointer e3, .int .u32 (IntKind.wrap .u32 (1 + n30)), .int .u32 v32] [.c (.int .u32), .c .bool] (fun (e33 : Int × Bool) h34 =>
                  ((IntKind.wrap .u32 (2 + (IntKind.wrap .u32 (Int.tmod x0 20)))) ≠ 0 ∧
                   Bd (Int.tmod (IntKind.wrap .u32 x4) (IntKind.wrap .u32 (2 + (IntKind.wrap .u32 (Int.tmod x0 20)))) : Int) (fun n35 =>
                    HC PG f_graph_Graph_Meet [.pointer e3, .int .u32 (IntKind.wrap .u32 (1 + n35)), .int .u32 (IntKind.wrap .u32 (1 + n30))] [.c (.int .u32), .c .bool] (fun (e36 : Int × Bool) h37 =>
                     CondP e33.2 (
                      Bd (if (IntKind.wrap .u32 (1 + n5)) < (IntKind.wrap .u32 (1 + n30)) then (IntKind.wrap .u32 (1 + n5)) else (IntKind.wrap .u32 (1 + n30)) : Int) (fun n38 =>
                       CondP (e33.1 == n38) (
                        CondP e36.2 (
                         ((IntKind.wrap .u32 (2 + (IntKind.wrap .u32 (Int.tmod x0 20)))) ≠ 0 ∧
                          Bd (Int.tmod (IntKind.wrap .u32 x4) (IntKind.wrap .u32 (2 + (IntKind.wrap .u32 (Int.tmod x0 20)))) : Int) (fun n39 =>
                           Bd (if (IntKind.wrap .u32 (1 + n30)) < (IntKind.wrap .u32 (1 + n39)) then (IntKind.wrap .u32 (1 + n30)) else (IntKind.wrap .u32 (1 + n39)) : Int) (fun n40 =>
                            CondP (e36.1 == n40) (
                             ((t18.2.1.len : Int) ≠ 0 ∧
                              Bd (IntKind.wrap .i64 ((IntKind.wrap .i64 (IntKind.wrap .u32 (1 + n5))) + (Int.tmod (IntKind.wrap .i64 x4) (t18.2.1.len : Int))) : Int) (fun n41 =>
                               HC PG f_graph_Graph_Above [.pointer e3, .int .u32 v32] [.c .slice] (fun (e42 : SliceV) h43 =>
                                CondP ((e42.len : Int) == (IntKind.wrap .i64 (n41 + 1))) (
                                 HC PG f_graph_Graph_Leads [.pointer e3, .int .u32 v32, .int .u32 (IntKind.wrap .u32 (1 + n5))] [.c .bool] (fun (e44 : Bool) h45 =>
                                  CondP e44 (
                                   HC PG f_graph_Graph_Leads [.pointer e3, .int .u32 (IntKind.wrap .u32 (1 + n5)), .int .u32 v32] [.c .bool] (fun (e46 : Bool) h47 =>
                                    K (!e46) h47) h45) (
                                   K false h45)) h43) (
                                 K false h43)) h37))) (
                             K false h37))))) (
                         K false h37)) (
                        K false h37))) (
                      K false h37)) h34))) h19)))))) (IntKind.wrap .u32 (1 + n5), ⟨none, 0, 0⟩, 0) h8))) 0 h4)))) h2)) h0
def A_l20_GraphChains : Ann := .node (.reg [0, 1, 2, 3, 4] (.nil)) (.node (.node (.reg [0, 1, 2, 3, 4, 26] (.nil)) (.node (.node (.reg [10] (.nil)) (.nil)) (.nil))) (.node (.reg [0, 1, 2, 3, 4, 11] (.nil)) (.node (.reg [1, 2, 3, 4, 11, 12] (.nil)) (.node (.reg [2, 3, 4, 11, 12, 13] (.nil)) (.node (.node (.reg [2, 3, 4, 11, 12, 13, 37, 38] (.nil)) (.loop [2, 3, 4, 11, 12, 13, 37] [(38, .c (.int .u32))] (.node (.reg [2, 3, 4, 11, 12, 13, 37, 38, 39] (.nil)) (.node (.nil) (.join [2, 3, 4, 11, 12, 13, 37, 38] [] (.node (.reg [2, 3, 4, 11, 12, 13, 14, 37, 38] (.nil)) (.node (.reg [2, 3, 4, 11, 12, 13, 14, 37, 38, 42] (.nil)) (.node (.reg [2, 3, 4, 11, 12, 13, 37, 38] (.nil)) (.reg [2, 3, 4, 11, 12, 13, 37, 38] (.nil))))) (.reg [2, 3, 4, 11, 12, 13, 37, 38] (.nil))))))) (.node (.reg [2, 3, 4, 11, 12, 13, 15] (.nil)) (.node (.reg [2, 3, 4, 11, 12, 13, 15, 16] (.nil)) (.node (.node (.reg [3, 4, 11, 12, 13, 15, 16, 54, 55] (.nil)) (.loop [3, 4, 11, 12, 13, 54] [(15, .c (.int .u32)), (16, .c .slice), (55, .c (.int .i64))] (.node (.reg [3, 4, 11, 12, 13, 15, 16, 54, 55, 56] (.nil)) (.node (.nil) (.join [3, 4, 11, 12, 13, 54, 55] [(15, .c (.int .u32)), (16, .c .slice)] (.node (.reg [3, 4, 11, 12, 13, 16, 17, 18, 54, 55] (.nil)) (.node (.node (.reg [3, 4, 11, 12, 13, 16, 17, 54, 55, 65] (.nil)) (.node (.node (.reg [10] (.nil)) (.nil)) (.nil))) (.node (.reg [3, 4, 11, 12, 13, 15, 16, 17, 54, 55] (.nil)) (.reg [3, 4, 11, 12, 13, 15, 16, 54, 55] (.nil))))) (.reg [3, 4, 11, 12, 13, 15, 16, 54, 55] (.nil))))))) (.node (.reg [4, 11, 12, 13, 16, 19, 20] (.draw [.mk 0 32767 8 4722366482869645213696, .mk 1 32766 4722366482869645213696 9444732965739290427392, .mk 0 32767 4096 18889465931478580854784, .mk 6 32761 28334198897217871282176 37778931862957161709568, .mk 8 32759 37778931862957161709568 75557863725914323419136, .mk 0 32767 65536 151115727451828646838272, .mk 0 32767 16 302231454903657293676544, .mk 64 32703 302231454903657293676544 604462909807314587353088, .mk 0 32767 65536 1208925819614629174706176, .mk 256 32511 1208925819614629174706176 2417851639229258349412352, .mk 640 32127 3022314549036572936765440 4835703278458516698824704, .mk 1056 31711 4986819005910345345662976 9671406556917033397649408, .mk 2048 30719 9671406556917033397649408 19342813113834066795298816, .mk 31 32751 75557863725914323419136 524288, .mk 16383 28671 19342813113834066795298816 1048576] (.take 0 (.take 1 (.take 2 (.take 3 (.take 4 (.take 5 (.take 6 (.take 7 (.take 8 (.take 9 (.take 10 (.take 11 (.take 12 (.take 13 (.take 14 (.done)))))))))))))))))) (.node (.reg [4, 11, 12, 13, 16, 19, 20, 21, 22] (.nil)) (.node (.reg [4, 11, 12, 13, 16, 19, 20, 21, 22, 23, 24] (.nil)) (.node (.reg [10] (.draw [.mk 0 4503599627370495 4194304 10141204801825835211973625643008, .mk 1 4503599627370494 10141204801825835211973625643008 20282409603651670423947251286016, .mk 2 4503599627370493 20282409603651670423947253383168 40564819207303340847894502572032, .mk 2 4503599627370493 20282409603651670423947251810304 81129638414606681695789005144064, .mk 2 4503599627370493 20282409603651670423947251294208 162259276829213363391578010288128, .mk 26 4503599627370469 263671324847471715511314266718208 324518553658426726783156020576256, .mk 38 4503599627370457 385365782469381738054997774434304 649037107316853453566312041152512, .mk 66 4503599627370429 669319516920505123990259292438528 1298074214633706907132624082305024, .mk 130 4503599627370367 1298074214633706907132624082305024 2596148429267413814265248164610048, .mk 256 4503599627370239 2596148429267413814265248181387264 5192296858534827628530496329220096, .mk 768 4503599627369727 7788445287802241442795744493830144 10384593717069655257060992658440192, .mk 1280 4503599627369471 10384593717069655257060992658440192 20769187434139310514121985316880384, .mk 2048 4503599627368447 20769187434139310514121985325268992 41538374868278621028243970633760768, .mk 2048 4503599627368447 20769187434139310514121985316880400 83076749736557242056487941267521536, .mk 10240 4503599627360255 103845937170696552570609926584401920 166153499473114484112975882535043072, .mk 2048 4503599627368447 20769187434139310514121985316884480 332306998946228968225951765070086144, .mk 51200 4503599627319295 519229685853482762853049632922009600 664613997892457936451903530140172288, .mk 67584 4503599627302911 685383185326597246966025515457052672 1329227995784915872903807060280344576, .mk 2048 4503599627368447 20769187434139310514121985317404672 2658455991569831745807614120560689152, .mk 395264 4503599626975231 4008453174788886929225543166157914112 5316911983139663491615228241121378304, .mk 530432 4503599626840063 5379219545442081423157594197072019456 10633823966279326983230456482242756608, .mk 1050624 4503599626319871 10654593153713466293744578467559636992 21267647932558653966460912964485513216, .mk 2099200 4503599625273343 21267647932558653966460912964485513216 42535295865117307932921825928971026432, .mk 4194304 4503599623176191 42535295865117307932921825928971028480 85070591730234615865843651857942052864, .mk 4194304 4503599623176191 42535295865117307932921825928972075008 170141183460469231731687303715884105728, .mk 29360128 4503599598010367 297747071055821155530452781502797185024 340282366920938463463374607431768211456, .mk 37748736 4503599589621759 382817662786055771396296433360739237888 680564733841876926926749214863536422912, .mk 4194304 4503599623176191 42535295865117307932921825928971034624 1361129467683753853853498429727072845824, .mk 138412032 4503599488958463 1403664763548871161786420255656043872256 2722258935367507707706996859454145691648, .mk 4194304 4503599623176191 42535295865117307932921825928971026448 5444517870735015415413993718908291383296, .mk 541065216 4503599086305279 5487053166600132723346915544837262409728 10889035741470030830827987437816582766592, .mk 4194304 4503599623176191 42535295865117307932921825928971091968 21778071482940061661655974875633165533184, .mk 2151677952 4503597475692543 21820606778805178969588896701562136559616 43556142965880123323311949751266331066368, .mk 5372903424 4503594254467071 54487714003215271462072859015011884859392 87112285931760246646623899502532662132736, .mk 8862564352 4503590764806143 89877080162992871662263818187915778850816 174224571863520493293247799005065324265472, .mk 17184063488 4503582443307007 174267107159385610601180720830994295291904 348449143727040986586495598010130648530944, .mk 34431041536 4503565196328959 349172243756747980821355269050923155980288 696898287454081973172991196020261297061888, .mk 68723671040 4503530903699455 696940822749947090480924117846190268088320 1393796574908163946345982392040522594123776, .mk 137472507904 4503462188417023 1393796574908163946345982392040522594123776 2787593149816327892691964784081045188247552, .mk 274877906944 4503324749463551 2787593149816327892691964784081045188249600 5575186299632655785383929568162090376495104, .mk 274877906944 4503324749463551 2787593149816327892691964784081045189296128 11150372599265311570767859136324180752990208, .mk 274877906944 4503324749463551 2787593149816327892691964784081045188255744 22300745198530623141535718272648361505980416, .mk 4123168604160 4499476458766335 41813897247244918390379471761215677823713280 44601490397061246283071436545296723011960832, .mk 4672924418048 4498926702952447 47389083546877574175763401329377768200208384 89202980794122492566142873090593446023921664, .mk 13194139533312 4494803534348287 89202980794122492566142873090593446023921664 178405961588244985132285746181186892047843328, .mk 17592186044416 4486007441326079 178405961588244985132285746181186892047845376 356811923176489970264571492362373784095686656, .mk 17592186044416 4486007441326079 178405961588244985132285746181186892047851520 713623846352979940529142984724747568191373312, .mk 17592186044416 4486007441326079 178405961588244985132285746181186892048891904 1427247692705959881058285969449495136382746624, .mk 263882790666240 4239716836704255 2676089423823674776984286192717803380717649920 2854495385411919762116571938898990272765493248, .mk 299067162755072 4204532464615423 3032901347000164747248857685080177164813336576 5708990770823839524233143877797980545530986496, .mk 580542139465728 3923057487904767 5887396732412084509365429623979167437578829824 11417981541647679048466287755595961091061972992, .mk 2251799813685247 3377699720527871 11417981541647679048466287755595961091061972992 1024] (.take 0 (.take 1 (.split 104 (.take 2 (.take 3 (.take 4 (.take 5 (.take 6 (.take 7 (.take 8 (.split 111 (.take 9 (.take 10 (.take 11 (.split 114 (.take 12 (.take 13 (.take 14 (.take 15 (.take 16 (.take 17 (.take 18 (.take 19 (.take 20 (.take 21 (.take 22 (.split 125 (.take 23 (.take 24 (.take 27 (.take 28 (.take 29 (.take 30 (.take 31 (.take 32 (.take 33 (.take 34 (.take 35 (.all (.last 25 (.take 26 (.take 36 (.take 37 (.take 38 (.split 141 (.take 39 (.take 40 (.take 41 (.all (.last 42 (.take 43 (.take 44 (.split 147 (.take 45 (.take 46 (.take 47 (.all (.last 48 (.take 49 (.take 50 (.take 51 (.done))))))))) (.take 45 (.take 46 (.take 47 (.take 48 (.take 49 (.take 50 (.take 51 (.done)))))))))))))))) (.take 39 (.take 40 (.take 41 (.take 42 (.take 43 (.take 44 (.take 45 (.take 46 (.take 47 (.take 48 (.take 49 (.take 50 (.take 51 (.done)))))))))))))))))))))))))))))))) (.take 23 (.take 24 (.take 25 (.take 26 (.take 27 (.take 28 (.take 29 (.take 30 (.take 31 (.take 32 (.take 33 (.take 34 (.take 35 (.take 36 (.take 37 (.take 38 (.take 39 (.take 40 (.take 41 (.take 42 (.take 43 (.take 44 (.take 45 (.take 46 (.take 47 (.take 48 (.take 49 (.take 50 (.take 51 (.done)))))))))))))))))))))))))))))))))))))))))) (.take 12 (.take 13 (.take 14 (.take 15 (.take 16 (.take 17 (.take 18 (.take 19 (.take 20 (.take 21 (.take 22 (.take 23 (.take 24 (.take 25 (.take 26 (.take 27 (.take 28 (.take 29 (.take 30 (.take 31 (.take 32 (.take 33 (.take 34 (.take 35 (.take 36 (.take 37 (.take 38 (.take 39 (.take 40 (.take 41 (.take 42 (.take 43 (.take 44 (.take 45 (.take 46 (.take 47 (.take 48 (.take 49 (.take 50 (.take 51 (.done))))))))))))))))))))))))))))))))))))))))))))) (.take 9 (.take 10 (.take 11 (.take 12 (.take 13 (.take 14 (.take 15 (.take 16 (.take 17 (.take 18 (.take 19 (.take 20 (.take 21 (.take 22 (.take 23 (.take 24 (.take 25 (.take 26 (.take 27 (.take 28 (.take 29 (.take 30 (.take 31 (.take 32 (.take 33 (.take 34 (.take 35 (.take 36 (.take 37 (.take 38 (.take 39 (.take 40 (.take 41 (.take 42 (.take 43 (.take 44 (.take 45 (.take 46 (.take 47 (.take 48 (.take 49 (.take 50 (.take 51 (.done)))))))))))))))))))))))))))))))))))))))))))))))))))) (.take 2 (.take 3 (.take 4 (.take 5 (.take 6 (.take 7 (.take 8 (.take 9 (.take 10 (.take 11 (.take 12 (.take 13 (.take 14 (.take 15 (.take 16 (.take 17 (.take 18 (.take 19 (.take 20 (.take 21 (.take 22 (.take 23 (.take 24 (.take 25 (.take 26 (.take 27 (.take 28 (.take 29 (.take 30 (.take 31 (.take 32 (.take 33 (.take 34 (.take 35 (.take 36 (.take 37 (.take 38 (.take 39 (.take 40 (.take 41 (.take 42 (.take 43 (.take 44 (.take 45 (.take 46 (.take 47 (.take 48 (.take 49 (.take 50 (.take 51 (.done)))))))))))))))))))))))))))))))))))))))))))))))))))))))) (.nil)))))))))))))
theorem E_l20_GraphChains (x0 : Int) (x1 : Int) (x2 : Int) (x3 : Int) (x4 : Int) (K : Tup [.c .bool] → Heap → Prop) (h0 : Heap) : F_l20_GraphChains x0 x1 x2 x3 x4 K h0 = sBody PG Try.f3 (Try.f3.body.getD .skip) A_l20_GraphChains [.int .u8 x0, .int .u8 x1, .int .u8 x2, .int .u8 x3, .int .u8 x4] [.c .bool] K h0 := by kernel_rfl
theorem H_l20_GraphChains (x0 : Int) (x1 : Int) (x2 : Int) (x3 : Int) (x4 : Int) {K : Tup [.c .bool] → Heap → Prop} {h0 : Heap} (h : F_l20_GraphChains x0 x1 x2 x3 x4 K h0) : HC PG f_l20_GraphChains [.int .u8 x0, .int .u8 x1, .int .u8 x2, .int .u8 x3, .int .u8 x4] [.c .bool] K h0 := HC.intro Try.mixed Try.func3 rfl Try.call3 (Nat.le_of_ble_eq_true rfl) ((E_l20_GraphChains x0 x1 x2 x3 x4 K h0) ▸ h)
/-- quickset/quicksetlaw20.GraphLeads -/
def F_l20_GraphLeads (x0 : SliceV) (x1 : Int) (x2 : Int) (K : (Bool) → Heap → Prop) (h0 : Heap) : Prop :=
  HC PG f_l20_awake [] [.c .bool] (fun (e1 : Bool) h2 =>
   CondP (!e1) (
    K false h2) (
    HC PG f_graph_New [] [.c .ptr] (fun (e3 : Option Addr) h4 =>
     At (hnew h4 [.slice none 0 0, .int .u32 1] t_r20_Graph) (fun h5 =>
      LoopP (fun I6 (t7 : Int) h8 => -- (28)
       CondP (decide (t7 < (x0.len : Int))) (
        Join (fun (t23 : Unit) h24 => -- 
         I6 (IntKind.wrap .i64 (t7 + 1)) h24) (fun J9 =>
         (((0 : Int) ≤ t7 ∧ t7 < ((x0.len : Nat) : Int)) ∧ ∃ a10 : Addr, x0.a = some a10 ∧
          ∃ v11 : Int, hcell h8 (adr (adr a10 (t7.toNat * 4)) 0) = some (.int .u8 v11) ∧
          ∃ v12 : Int, hcell h8 (adr (adr a10 (t7.toNat * 4)) 1) = some (.int .u32 v12) ∧
          ∃ v13 : SliceV, hcell h8 (adr (adr a10 (t7.toNat * 4)) 2) = some (.slice v13.a v13.len v13.cap) ∧
          ∃ v14 : Bool, hcell h8 (adr (adr a10 (t7.toNat * 4)) 3) = some (.bool v14) ∧
          At (hnew h8 [.int .u8 0, .int .u32 0, .slice none 0 0, .bool false] t_l20_Act) (fun h15 =>
           (WrS h15 (some (newA h8)) 0 [.int .u8 v11, .int .u32 v12, .slice v13.a v13.len v13.cap, .bool v14] ∧
            At (hsetL h15 (newA h8) 0 [.int .u8 v11, .int .u32 v12, .slice v13.a v13.len v13.cap, .bool v14]) (fun h16 =>
             CondP (decide (t7 < (30 : Int))) (
              ∃ v17 : Int, hcell h16 (adr (newA h8) 0) = some (.int .u8 v17) ∧
              ∃ v18 : Int, hcell h16 (adr (newA h8) 1) = some (.int .u32 v18) ∧
              ∃ v19 : SliceV, hcell h16 (adr (newA h8) 2) = some (.slice v19.a v19.len v19.cap) ∧
              ∃ v20 : Bool, hcell h16 (adr (newA h8) 3) = some (.bool v20) ∧
              HC PG f_l20_do [.pointer e3, .pointer (some (newA h4)), .agg #[.int .u8 v17, .int .u32 v18, .slice v19.a v19.len v19.cap, .bool v20]] [.c .bool] (fun (e21 : Bool) h22 =>
               J9 () h22) h16) (
              J9 () h16))))))) (
        Join (fun (t32 : SliceV) h33 => -- ids(11)
         LoopP (fun I34 (t35 : Int) h36 => -- (48)
          CondP (decide (t35 < (t32.len : Int))) (
           Join (fun (t62 : Unit) h63 => -- 
            I34 (IntKind.wrap .i64 (t35 + 1)) h63) (fun J37 =>
            (((0 : Int) ≤ t35 ∧ t35 < ((t32.len : Nat) : Int)) ∧ ∃ a38 : Addr, t32.a = some a38 ∧
             ∃ v39 : Int, hcell h36 (adr a38 (t35.toNat * 1)) = some (.int .u32 v39) ∧
             CondP (decide (t35 ≥ (14 : Int))) (
              K true h36) (
              HC PG f_r20_Above [.pointer (some (newA h4)), .int .u32 v39] [.c .slice] (fun (e40 : SliceV) h41 =>
               HC PG f_graph_Graph_Above [.pointer e3, .int .u32 v39] [.c .slice] (fun (e42 : SliceV) h43 =>
                HC PG f_slices_Equal_A_u32_u32 [.slice e42.a e42.len e42.cap, .slice e40.a e40.len e40.cap] [.c .bool] (fun (e44 : Bool) h45 =>
                 CondP (!e44) (
                  K false h45) (
                  LoopP (fun I46 (t47 : Int) h48 => -- (66)
                   CondP (decide (t47 < (t32.len : Int))) (
                    (((0 : Int) ≤ t47 ∧ t47 < ((t32.len : Nat) : Int)) ∧ ∃ a49 : Addr, t32.a = some a49 ∧
                     ∃ v50 : Int, hcell h48 (adr a49 (t47.toNat * 1)) = some (.int .u32 v50) ∧
                     CondP (decide (t47 ≥ (14 : Int))) (
                      J37 () h48) (
                      HC PG f_graph_Graph_Meet [.pointer e3, .int .u32 v39, .int .u32 v50] [.c (.int .u32), .c .bool] (fun (e51 : Int × Bool) h52 =>
                       HC PG f_r20_Meet [.pointer (some (newA h4)), .int .u32 v39, .int .u32 v50] [.c (.int .u32), .c .bool] (fun (e53 : Int × Bool) h54 =>
                        Join (fun (t60 : Bool) h61 => -- (104)
                         CondP t60 (
                          K false h61) (
                          I46 (IntKind.wrap .i64 (t47 + 1)) h61)) (fun J55 =>
                         CondP (e51.1 != e53.1) (
                          J55 true h54) (
                          CondP (!(e51.2 == e53.2)) (
                           J55 true h54) (
                           HC PG f_graph_Graph_Leads [.pointer e3, .int .u32 v39, .int .u32 v50] [.c .bool] (fun (e56 : Bool) h57 =>
                            HC PG f_r20_Has [.slice e40.a e40.len e40.cap, .int .u32 v50] [.c .bool] (fun (e58 : Bool) h59 =>
                             J55 (!(e56 == e58)) h59) h57) h54)))) h52) h48))) (
                    J37 () h48)) 0 h45)) h43) h41) h36)))) (
           K true h36)) 0 h33) (fun J25 =>
         HC PG f_graph_Graph_IDs [.pointer e3] [.c .slice] (fun (e26 : SliceV) h27 =>
          At (hnew h27 [.int .u32 x1, .int .u32 x2] t_u32) (fun h28 =>
           ∃ xs29, SRow h28 (some (newA h27)) (2 * 1) xs29 ∧
           AppP (some [.int .u32 0]) 1 4 t_u32 e26.a e26.len e26.cap 2 xs29 h28 (fun s30 h31 =>
            J25 s30 h31))) h8))) 0 h5)) h2)) h0
def A_l20_GraphLeads : Ann := .node (.reg [0, 1, 2] (.nil)) (.node (.node (.reg [0, 1, 2, 22] (.nil)) (.node (.node (.reg [6] (.nil)) (.nil)) (.nil))) (.node (.reg [0, 1, 2, 7, 8] (.nil)) (.node (.node (.reg [1, 2, 7, 8, 26, 27, 28] (.nil)) (.loop [1, 2, 7, 8, 26, 27] [(28, .c (.int .i64))] (.node (.reg [1, 2, 7, 8, 26, 27, 28, 29] (.nil)) (.node (.nil) (.join [1, 2, 7, 8, 26, 27, 28] [] (.node (.reg [1, 2, 7, 8, 9, 10, 26, 27, 28] (.nil)) (.node (.reg [1, 2, 7, 8, 10, 26, 27, 28, 34] (.nil)) (.node (.reg [1, 2, 7, 8, 26, 27, 28] (.nil)) (.nil)))) (.reg [1, 2, 7, 8, 26, 27, 28] (.nil))))))) (.join [7, 8] [(11, .c .slice)] (.reg [7, 8, 11] (.nil)) (.node (.node (.reg [7, 8, 11, 46, 47, 48] (.nil)) (.loop [7, 8, 11, 46, 47] [(48, .c (.int .i64))] (.node (.reg [7, 8, 11, 46, 47, 48, 49] (.nil)) (.node (.nil) (.join [7, 8, 11, 46, 47, 48] [] (.node (.reg [7, 8, 11, 12, 13, 46, 47, 48] (.nil)) (.node (.node (.reg [7, 8, 11, 13, 46, 47, 48, 54] (.nil)) (.nil)) (.node (.reg [7, 8, 11, 13, 14, 46, 47, 48] (.nil)) (.node (.node (.reg [7, 8, 11, 13, 14, 46, 47, 48, 63] (.nil)) (.node (.node (.reg [6] (.nil)) (.nil)) (.nil))) (.node (.reg [7, 8, 11, 13, 14, 46, 47, 48, 64, 65, 66] (.nil)) (.loop [7, 8, 11, 13, 14, 46, 47, 48, 64, 65] [(66, .c (.int .i64))] (.node (.reg [7, 8, 11, 13, 14, 46, 47, 48, 64, 65, 66, 67] (.nil)) (.node (.nil) (.node (.node (.reg [7, 8, 11, 13, 14, 15, 16, 46, 47, 48, 64, 65, 66] (.nil)) (.node (.node (.reg [7, 8, 11, 13, 14, 16, 46, 47, 48, 64, 65, 66, 72] (.nil)) (.nil)) (.node (.reg [7, 8, 11, 13, 14, 16, 17, 18, 46, 47, 48, 64, 65, 66] (.nil)) (.node (.reg [7, 8, 11, 13, 14, 16, 17, 18, 19, 20, 46, 47, 48, 64, 65, 66] (.nil)) (.join [7, 8, 11, 13, 14, 46, 47, 48, 64, 65, 66] [(104, .c .bool)] (.reg [7, 8, 11, 13, 14, 46, 47, 48, 64, 65, 66, 104] (.nil)) (.node (.node (.reg [6] (.nil)) (.nil)) (.nil))))))) (.reg [7, 8, 11, 13, 14, 46, 47, 48, 64, 65, 66] (.nil))))))))))) (.reg [7, 8, 11, 46, 47, 48] (.nil))))))) (.node (.reg [6] (.nil)) (.nil)))))))
theorem E_l20_GraphLeads (x0 : SliceV) (x1 : Int) (x2 : Int) (K : Tup [.c .bool] → Heap → Prop) (h0 : Heap) : F_l20_GraphLeads x0 x1 x2 K h0 = sBody PG Try.f4 (Try.f4.body.getD .skip) A_l20_GraphLeads [.slice x0.a x0.len x0.cap, .int .u32 x1, .int .u32 x2] [.c .bool] K h0 := by kernel_rfl
theorem H_l20_GraphLeads (x0 : SliceV) (x1 : Int) (x2 : Int) {K : Tup [.c .bool] → Heap → Prop} {h0 : Heap} (h : F_l20_GraphLeads x0 x1 x2 K h0) : HC PG f_l20_GraphLeads [.slice x0.a x0.len x0.cap, .int .u32 x1, .int .u32 x2] [.c .bool] K h0 := HC.intro Try.mixed Try.func4 rfl Try.call4 (Nat.le_of_ble_eq_true rfl) ((E_l20_GraphLeads x0 x1 x2 K h0) ▸ h)
/-- quickset/quicksetlaw20.GraphMeets -/
def F_l20_GraphMeets (x0 : SliceV) (x1 : Int) (x2 : Int) (K : (Bool) → Heap → Prop) (h0 : Heap) : Prop :=
  HC PG f_l20_awake [] [.c .bool] (fun (e1 : Bool) h2 =>
   CondP (!e1) (
    K false h2) (
    HC PG f_graph_New [] [.c .ptr] (fun (e3 : Option Addr) h4 =>
     At (hnew h4 [.slice none 0 0, .int .u32 1] t_r20_Graph) (fun h5 =>
      LoopP (fun I6 (t7 : Int) h8 => -- (27)
       CondP (decide (t7 < (x0.len : Int))) (
        Join (fun (t23 : Unit) h24 => -- 
         I6 (IntKind.wrap .i64 (t7 + 1)) h24) (fun J9 =>
         (((0 : Int) ≤ t7 ∧ t7 < ((x0.len : Nat) : Int)) ∧ ∃ a10 : Addr, x0.a = some a10 ∧
          ∃ v11 : Int, hcell h8 (adr (adr a10 (t7.toNat * 4)) 0) = some (.int .u8 v11) ∧
          ∃ v12 : Int, hcell h8 (adr (adr a10 (t7.toNat * 4)) 1) = some (.int .u32 v12) ∧
          ∃ v13 : SliceV, hcell h8 (adr (adr a10 (t7.toNat * 4)) 2) = some (.slice v13.a v13.len v13.cap) ∧
          ∃ v14 : Bool, hcell h8 (adr (adr a10 (t7.toNat * 4)) 3) = some (.bool v14) ∧
          At (hnew h8 [.int .u8 0, .int .u32 0, .slice none 0 0, .bool false] t_l20_Act) (fun h15 =>
           (WrS h15 (some (newA h8)) 0 [.int .u8 v11, .int .u32 v12, .slice v13.a v13.len v13.cap, .bool v14] ∧
            At (hsetL h15 (newA h8) 0 [.int .u8 v11, .int .u32 v12, .slice v13.a v13.len v13.cap, .bool v14]) (fun h16 =>
             CondP (decide (t7 < (40 : Int))) (
              ∃ v17 : Int, hcell h16 (adr (newA h8) 0) = some (.int .u8 v17) ∧
              ∃ v18 : Int, hcell h16 (adr (newA h8) 1) = some (.int .u32 v18) ∧
              ∃ v19 : SliceV, hcell h16 (adr (newA h8) 2) = some (.slice v19.a v19.len v19.cap) ∧
              ∃ v20 : Bool, hcell h16 (adr (newA h8) 3) = some (.bool v20) ∧
              HC PG f_l20_do [.pointer e3, .pointer (some (newA h4)), .agg #[.int .u8 v17, .int .u32 v18, .slice v19.a v19.len v19.cap, .bool v20]] [.c .bool] (fun (e21 : Bool) h22 =>
               J9 () h22) h16) (
              J9 () h16))))))) (
        HC PG f_graph_Graph_IDs [.pointer e3] [.c .slice] (fun (e25 : SliceV) h26 =>
         CondP ((e25.len : Int) == (0 : Int)) (
          K true h26) (
          ((e25.len : Int) ≠ 0 ∧
           (((0 : Int) ≤ (Int.tmod (IntKind.wrap .i64 x1) (e25.len : Int)) ∧ (Int.tmod (IntKind.wrap .i64 x1) (e25.len : Int)) < ((e25.len : Nat) : Int)) ∧ ∃ a27 : Addr, e25.a = some a27 ∧
            ∃ v28 : Int, hcell h26 (adr a27 ((Int.tmod (IntKind.wrap .i64 x1) (e25.len : Int)).toNat * 1)) = some (.int .u32 v28) ∧
            ((e25.len : Int) ≠ 0 ∧
             (((0 : Int) ≤ (Int.tmod (IntKind.wrap .i64 x2) (e25.len : Int)) ∧ (Int.tmod (IntKind.wrap .i64 x2) (e25.len : Int)) < ((e25.len : Nat) : Int)) ∧ ∃ a29 : Addr, e25.a = some a29 ∧
              ∃ v30 : Int, hcell h26 (adr a29 ((Int.tmod (IntKind.wrap .i64 x2) (e25.len : Int)).toNat * 1)) = some (.int .u32 v30) ∧
              HC PG f_graph_Graph_Meet [.pointer e3, .int .u32 v28, .int .u32 v30] [.c (.int .u32), .c .bool] (fun (e31 : Int × Bool) h32 =>
               HC PG f_graph_Graph_Meet [.pointer e3, .int .u32 v30, .int .u32 v28] [.c (.int .u32), .c .bool] (fun (e33 : Int × Bool) h34 =>
                Join (fun (t38 : Bool) h39 => -- (92)
                 CondP t38 (
                  K false h39) (
                  LoopP (fun I40 (t41 : Int) h42 => -- (95)
                   CondP (decide (t41 < (e25.len : Int))) (
                    (((0 : Int) ≤ t41 ∧ t41 < ((e25.len : Nat) : Int)) ∧ ∃ a43 : Addr, e25.a = some a43 ∧
                     ∃ v44 : Int, hcell h42 (adr a43 (t41.toNat * 1)) = some (.int .u32 v44) ∧
                     Join (fun (t52 : Bool) h53 => -- (123)
                      CondP t52 (
                       K false h53) (
                       I40 (IntKind.wrap .i64 (t41 + 1)) h53)) (fun J45 =>
                      HC PG f_graph_Graph_Leads [.pointer e3, .int .u32 v28, .int .u32 v44] [.c .bool] (fun (e46 : Bool) h47 =>
                       CondP e46 (
                        HC PG f_graph_Graph_Leads [.pointer e3, .int .u32 v30, .int .u32 v44] [.c .bool] (fun (e48 : Bool) h49 =>
                         CondP e48 (
                          CondP (!e31.2) (
                           J45 true h49) (
                           CondP (v44 != e31.1) (
                            HC PG f_graph_Graph_Leads [.pointer e3, .int .u32 v44, .int .u32 e31.1] [.c .bool] (fun (e50 : Bool) h51 =>
                             J45 e50 h51) h49) (
                            J45 false h49))) (
                          J45 false h49)) h47) (
                        J45 false h47)) h42))) (
                    CondP (!e31.2) (
                     K true h42) (
                     HC PG f_graph_Graph_Leads [.pointer e3, .int .u32 v28, .int .u32 e31.1] [.c .bool] (fun (e54 : Bool) h55 =>
                      CondP e54 (
                       HC PG f_graph_Graph_Leads [.pointer e3, .int .u32 v30, .int .u32 e31.1] [.c .bool] (fun (e56 : Bool) h57 =>
                        K e56 h57) h55) (
                       K false h55)) h42))) 0 h39)) (fun J35 =>
                 CondP (e31.1 != e33.1) (
                  J35 true h34) (
                  CondP (!(e31.2 == e33.2)) (
                   J35 true h34) (
                   HC PG f_graph_Graph_Leads [.pointer e3, .int .u32 v28, .int .u32 v30] [.c .bool] (fun (e36 : Bool) h37 =>
                    CondP e36 (
                     J35 (e31.1 != v30) h37) (
                     J35 false h37)) h34)))) h32) h26)))))) h8)) 0 h5)) h2)) h0
def A_l20_GraphMeets : Ann := .node (.reg [0, 1, 2] (.nil)) (.node (.node (.reg [0, 1, 2, 21] (.nil)) (.node (.node (.reg [6] (.nil)) (.nil)) (.nil))) (.node (.reg [0, 1, 2, 7, 8] (.nil)) (.node (.node (.reg [1, 2, 7, 8, 25, 26, 27] (.nil)) (.loop [1, 2, 7, 8, 25, 26] [(27, .c (.int .i64))] (.node (.reg [1, 2, 7, 8, 25, 26, 27, 28] (.nil)) (.node (.nil) (.join [1, 2, 7, 8, 25, 26, 27] [] (.node (.reg [1, 2, 7, 8, 9, 10, 25, 26, 27] (.nil)) (.node (.reg [1, 2, 7, 8, 10, 25, 26, 27, 33] (.nil)) (.node (.reg [1, 2, 7, 8, 25, 26, 27] (.nil)) (.nil)))) (.reg [1, 2, 7, 8, 25, 26, 27] (.nil))))))) (.node (.reg [1, 2, 7, 11] (.nil)) (.node (.node (.reg [1, 2, 7, 11, 43] (.nil)) (.node (.node (.reg [6] (.nil)) (.nil)) (.nil))) (.node (.reg [7, 11, 12, 13] (.draw [.mk 0 262143 2048 17592186044416, .mk 0 262143 2 35184372088832, .mk 2 262141 35184372088832 70368744177664, .mk 0 262143 2048 140737488355328, .mk 8 262135 140737488355328 281474976710656, .mk 20 262123 351843720888320 562949953421312, .mk 33 262110 580542139465728 1125899906842624, .mk 64 262079 1125899906842624 2251799813685248, .mk 0 262143 2048 4503599627370496, .mk 0 262143 4 9007199254740992, .mk 512 261631 9007199254740992 18014398509481984, .mk 0 262143 2048 36028797018963968, .mk 2048 260095 36028797018963968 72057594037927936, .mk 5120 257023 90071992547409920 144115188075855872, .mk 8448 253695 148618787703226368 288230376151711744, .mk 16384 245759 288230376151711744 576460752303423488, .mk 255 262015 2251799813685248 4096, .mk 131071 229375 576460752303423488 8192] (.take 0 (.take 1 (.take 2 (.take 3 (.take 4 (.take 5 (.take 6 (.take 7 (.take 8 (.take 9 (.take 10 (.take 11 (.take 12 (.take 13 (.take 14 (.take 15 (.take 16 (.take 17 (.done))))))))))))))))))))) (.node (.reg [7, 11, 12, 13, 14, 15] (.nil)) (.node (.reg [7, 11, 12, 13, 14, 15, 16, 17] (.nil)) (.node (.join [7, 11, 12, 13, 14, 15] [(92, .c .bool)] (.reg [7, 11, 12, 13, 14, 15, 92] (.nil)) (.node (.node (.reg [6] (.nil)) (.nil)) (.nil))) (.node (.node (.reg [7, 12, 13, 14, 15, 93, 94, 95] (.nil)) (.loop [7, 12, 13, 14, 15, 93, 94] [(95, .c (.int .i64))] (.node (.reg [7, 12, 13, 14, 15, 93, 94, 95, 96] (.nil)) (.node (.nil) (.node (.node (.reg [7, 12, 13, 14, 15, 19, 93, 94, 95] (.nil)) (.join [7, 12, 13, 14, 15, 93, 94, 95] [(123, .c .bool)] (.reg [7, 12, 13, 14, 15, 93, 94, 95, 123] (.nil)) (.node (.node (.reg [6] (.nil)) (.nil)) (.nil)))) (.reg [7, 12, 13, 14, 15, 93, 94, 95] (.nil))))))) (.node (.reg [6] (.nil)) (.nil))))))))))))
theorem E_l20_GraphMeets (x0 : SliceV) (x1 : Int) (x2 : Int) (K : Tup [.c .bool] → Heap → Prop) (h0 : Heap) : F_l20_GraphMeets x0 x1 x2 K h0 = sBody PG Try.f5 (Try.f5.body.getD .skip) A_l20_GraphMeets [.slice x0.a x0.len x0.cap, .int .u8 x1, .int .u8 x2] [.c .bool] K h0 := by kernel_rfl
theorem H_l20_GraphMeets (x0 : SliceV) (x1 : Int) (x2 : Int) {K : Tup [.c .bool] → Heap → Prop} {h0 : Heap} (h : F_l20_GraphMeets x0 x1 x2 K h0) : HC PG f_l20_GraphMeets [.slice x0.a x0.len x0.cap, .int .u8 x1, .int .u8 x2] [.c .bool] K h0 := HC.intro Try.mixed Try.func5 rfl Try.call5 (Nat.le_of_ble_eq_true rfl) ((E_l20_GraphMeets x0 x1 x2 K h0) ▸ h)
/-- quickset/quicksetlaw20.GraphPlays -/
def F_l20_GraphPlays (x0 : SliceV) (K : (Bool) → Heap → Prop) (h0 : Heap) : Prop :=
  HC PG f_l20_awake [] [.c .bool] (fun (e1 : Bool) h2 =>
   CondP (!e1) (
    K false h2) (
    HC PG f_graph_New [] [.c .ptr] (fun (e3 : Option Addr) h4 =>
     At (hnew h4 [.slice none 0 0, .int .u32 1] t_r20_Graph) (fun h5 =>
      LoopP (fun I6 (t7 : Int) h8 => -- (14)
       CondP (decide (t7 < (x0.len : Int))) (
        (((0 : Int) ≤ t7 ∧ t7 < ((x0.len : Nat) : Int)) ∧ ∃ a9 : Addr, x0.a = some a9 ∧
         ∃ v10 : Int, hcell h8 (adr (adr a9 (t7.toNat * 4)) 0) = some (.int .u8 v10) ∧
         ∃ v11 : Int, hcell h8 (adr (adr a9 (t7.toNat * 4)) 1) = some (.int .u32 v11) ∧
         ∃ v12 : SliceV, hcell h8 (adr (adr a9 (t7.toNat * 4)) 2) = some (.slice v12.a v12.len v12.cap) ∧
         ∃ v13 : Bool, hcell h8 (adr (adr a9 (t7.toNat * 4)) 3) = some (.bool v13) ∧
         At (hnew h8 [.int .u8 0, .int .u32 0, .slice none 0 0, .bool false] t_l20_Act) (fun h14 =>
          (WrS h14 (some (newA h8)) 0 [.int .u8 v10, .int .u32 v11, .slice v12.a v12.len v12.cap, .bool v13] ∧
           At (hsetL h14 (newA h8) 0 [.int .u8 v10, .int .u32 v11, .slice v12.a v12.len v12.cap, .bool v13]) (fun h15 =>
            CondP (decide (t7 ≥ (50 : Int))) (
             K true h15) (
             Join (fun (t25 : Bool) h26 => -- (31)
              CondP t25 (
               K false h26) (
               I6 (IntKind.wrap .i64 (t7 + 1)) h26)) (fun J16 =>
              ∃ v17 : Int, hcell h15 (adr (newA h8) 0) = some (.int .u8 v17) ∧
              ∃ v18 : Int, hcell h15 (adr (newA h8) 1) = some (.int .u32 v18) ∧
              ∃ v19 : SliceV, hcell h15 (adr (newA h8) 2) = some (.slice v19.a v19.len v19.cap) ∧
              ∃ v20 : Bool, hcell h15 (adr (newA h8) 3) = some (.bool v20) ∧
              HC PG f_l20_do [.pointer e3, .pointer (some (newA h4)), .agg #[.int .u8 v17, .int .u32 v18, .slice v19.a v19.len v19.cap, .bool v20]] [.c .bool] (fun (e21 : Bool) h22 =>
               CondP (!e21) (
                J16 true h22) (
                HC PG f_l20_like [.pointer e3, .pointer (some (newA h4))] [.c .bool] (fun (e23 : Bool) h24 =>
                 J16 (!e23) h24) h22)) h15))))))) (
        K true h8)) 0 h5)) h2)) h0
def A_l20_GraphPlays : Ann := .node (.reg [0] (.nil)) (.node (.node (.reg [0, 8] (.nil)) (.node (.node (.reg [2] (.nil)) (.nil)) (.nil))) (.node (.reg [0, 3, 4] (.nil)) (.node (.node (.reg [3, 4, 12, 13, 14] (.nil)) (.loop [3, 4, 12, 13] [(14, .c (.int .i64))] (.node (.reg [3, 4, 12, 13, 14, 15] (.nil)) (.node (.nil) (.node (.node (.reg [3, 4, 5, 6, 12, 13, 14] (.nil)) (.node (.node (.reg [3, 4, 6, 12, 13, 14, 20] (.nil)) (.nil)) (.join [3, 4, 12, 13, 14] [(31, .c .bool)] (.reg [3, 4, 12, 13, 14, 31] (.nil)) (.node (.node (.reg [2] (.nil)) (.nil)) (.nil))))) (.reg [3, 4, 12, 13, 14] (.nil))))))) (.node (.reg [2] (.nil)) (.nil)))))
theorem E_l20_GraphPlays (x0 : SliceV) (K : Tup [.c .bool] → Heap → Prop) (h0 : Heap) : F_l20_GraphPlays x0 K h0 = sBody PG Try.f6 (Try.f6.body.getD .skip) A_l20_GraphPlays [.slice x0.a x0.len x0.cap] [.c .bool] K h0 := by kernel_rfl
theorem H_l20_GraphPlays (x0 : SliceV) {K : Tup [.c .bool] → Heap → Prop} {h0 : Heap} (h : F_l20_GraphPlays x0 K h0) : HC PG f_l20_GraphPlays [.slice x0.a x0.len x0.cap] [.c .bool] K h0 := HC.intro Try.mixed Try.func6 rfl Try.call6 (Nat.le_of_ble_eq_true rfl) ((E_l20_GraphPlays x0 K h0) ▸ h)
/-- quickset/quicksetlaw20.GraphFull -/
def F_l20_GraphFull (x0 : SliceV) (K : (Bool) → Heap → Prop) (h0 : Heap) : Prop :=
  HC PG f_l20_awake [] [.c .bool] (fun (e1 : Bool) h2 =>
   CondP (!e1) (
    K false h2) (
    HC PG f_graph_New [] [.c .ptr] (fun (e3 : Option Addr) h4 =>
     LoopP (fun I5 (t6 : Int) h7 => -- (22)
      CondP (decide (t6 < (1024 : Int))) (
       HC PG f_graph_Graph_Add [.pointer e3, .slice none 0 0] [.c (.int .u32), .c (.int .i64)] (fun (e8 : Int × Int) h9 =>
        Join (fun (t11 : Bool) h12 => -- (37)
         CondP t11 (
          K false h12) (
          I5 (IntKind.wrap .u32 (t6 + 1)) h12)) (fun J10 =>
         CondP (e8.1 != (IntKind.wrap .u32 (t6 + 1))) (
          J10 true h9) (
          J10 (e8.2 != (0 : Int)) h9))) h7) (
       HC PG f_graph_Graph_Add [.pointer e3, .slice none 0 0] [.c (.int .u32), .c (.int .i64)] (fun (e13 : Int × Int) h14 =>
        HC PG f_graph_Graph_Put [.pointer e3, .int .u32 5000, .slice none 0 0] [.c (.int .i64)] (fun (e15 : Int) h16 =>
         HC PG f_graph_New [] [.c .ptr] (fun (e17 : Option Addr) h18 =>
          HC PG f_graph_Graph_SetNext [.pointer e17, .int .u32 2147483648] [.c .bool] (fun (e19 : Bool) h20 =>
           HC PG f_graph_Graph_Add [.pointer e17, .slice none 0 0] [.c (.int .u32), .c (.int .i64)] (fun (e21 : Int × Int) h22 =>
            HC PG f_graph_Graph_Add [.pointer none, .slice x0.a x0.len x0.cap] [.c (.int .u32), .c (.int .i64)] (fun (e23 : Int × Int) h24 =>
             HC PG f_graph_Graph_Meet [.pointer none, .int .u32 1, .int .u32 1] [.c (.int .u32), .c .bool] (fun (e25 : Int × Bool) h26 =>
              CondP (e13.2 == (6 : Int)) (
               CondP (e15 == (6 : Int)) (
                CondP e19 (
                 CondP (e21.2 == (6 : Int)) (
                  HC PG f_graph_Graph_Put [.pointer e17, .int .u32 2147483648, .slice none 0 0] [.c (.int .i64)] (fun (e27 : Int) h28 =>
                   CondP (e27 == (1 : Int)) (
                    HC PG f_graph_Graph_Put [.pointer e17, .int .u32 2147483647, .slice none 0 0] [.c (.int .i64)] (fun (e29 : Int) h30 =>
                     CondP (e29 == (0 : Int)) (
                      CondP (e23.2 == (4 : Int)) (
                       CondP (!e25.2) (
                        HC PG f_graph_Graph_Put [.pointer none, .int .u32 1, .slice none 0 0] [.c (.int .i64)] (fun (e31 : Int) h32 =>
                         CondP (e31 == (4 : Int)) (
                          At (hnew h32 [.int .u32 1] t_u32) (fun h33 =>
                           HC PG f_graph_Graph_Drop [.pointer none, .slice (some (newA h32)) 1 1] [.c .slice] (fun (e34 : SliceV) h35 =>
                            HC PG f_graph_Graph_IDs [.pointer none] [.c .slice] (fun (e36 : SliceV) h37 =>
                             HC PG f_graph_Graph_Parents [.pointer none, .int .u32 1] [.c .slice] (fun (e38 : SliceV) h39 =>
                              Bd (IntKind.wrap .i64 ((IntKind.wrap .i64 ((e34.len : Int) + (e36.len : Int))) + (e38.len : Int)) : Int) (fun n40 =>
                               HC PG f_graph_Graph_Above [.pointer none, .int .u32 1] [.c .slice] (fun (e41 : SliceV) h42 =>
                                HC PG f_graph_Graph_Len [.pointer none] [.c (.int .i64)] (fun (e43 : Int) h44 =>
                                 CondP ((IntKind.wrap .i64 ((IntKind.wrap .i64 (n40 + (e41.len : Int))) + e43)) == (0 : Int)) (
                                  HC PG f_graph_Graph_Next [.pointer none] [.c (.int .u32)] (fun (e45 : Int) h46 =>
                                   CondP (e45 == (0 : Int)) (
                                    HC PG f_graph_Graph_SetNext [.pointer none, .int .u32 5] [.c .bool] (fun (e47 : Bool) h48 =>
                                     CondP (!e47) (
                                      HC PG f_graph_Graph_Has [.pointer none, .int .u32 1] [.c .bool] (fun (e49 : Bool) h50 =>
                                       CondP (!e49) (
                                        HC PG f_graph_Graph_Leads [.pointer none, .int .u32 1, .int .u32 1] [.c .bool] (fun (e51 : Bool) h52 =>
                                         CondP (!e51) (
                                          HC PG f_graph_Graph_Copy [.pointer none] [.c .ptr] (fun (e53 : Option Addr) h54 =>
                                          K e53.isNone h54) h52) (
                                          K false h52)) h50) (
                                        K false h50)) h48) (
                                      K false h48)) h46) (
                                    K false h46)) h44) (
                                  K false h44)) h42) h39)) h37) h35) h33)) (
                          K false h32)) h30) (
                        K false h30)) (
                       K false h30)) (
                      K false h30)) h28) (
                    K false h28)) h26) (
                  K false h26)) (
                 K false h26)) (
                K false h26)) (
               K false h26)) h24) h22) h20) h18) h16) h14) h7)) 0 h4) h2)) h0
def A_l20_GraphFull : Ann := .node (.reg [0] (.nil)) (.node (.node (.reg [0, 20] (.nil)) (.node (.node (.reg [2] (.nil)) (.nil)) (.nil))) (.node (.reg [0, 3] (.nil)) (.node (.node (.reg [0, 3, 22] (.nil)) (.loop [0, 3] [(22, .c (.int .u32))] (.node (.reg [0, 3, 22, 23] (.nil)) (.node (.nil) (.node (.node (.reg [0, 3, 4, 22] (.nil)) (.node (.reg [0, 3, 4, 5, 6, 22] (.nil)) (.join [0, 3, 22] [(37, .c .bool)] (.reg [0, 3, 22, 37] (.nil)) (.node (.node (.reg [2] (.nil)) (.nil)) (.nil))))) (.reg [0, 3, 22] (.nil))))))) (.node (.reg [0, 3, 8] (.nil)) (.node (.reg [0, 8, 9] (.nil)) (.node (.reg [0, 8, 9, 10] (.nil)) (.node (.reg [0, 8, 9, 10, 11] (.nil)) (.node (.reg [0, 8, 9, 10, 11, 13] (.nil)) (.node (.reg [0, 8, 9, 10, 11, 13, 14] (.nil)) (.node (.reg [8, 9, 10, 11, 13, 14, 16] (.nil)) (.node (.reg [8, 9, 10, 11, 13, 14, 16, 18] (.nil)) (.node (.reg [2] (.nil)) (.nil)))))))))))))
theorem E_l20_GraphFull (x0 : SliceV) (K : Tup [.c .bool] → Heap → Prop) (h0 : Heap) : F_l20_GraphFull x0 K h0 = sBody PG Try.f7 (Try.f7.body.getD .skip) A_l20_GraphFull [.slice x0.a x0.len x0.cap] [.c .bool] K h0 := by kernel_rfl
theorem H_l20_GraphFull (x0 : SliceV) {K : Tup [.c .bool] → Heap → Prop} {h0 : Heap} (h : F_l20_GraphFull x0 K h0) : HC PG f_l20_GraphFull [.slice x0.a x0.len x0.cap] [.c .bool] K h0 := HC.intro Try.mixed Try.func7 rfl Try.call7 (Nat.le_of_ble_eq_true rfl) ((E_l20_GraphFull x0 K h0) ▸ h)
/-- quickset/quicksetlaw20.GraphDrops -/
def F_l20_GraphDrops (x0 : SliceV) (x1 : SliceV) (x2 : SliceV) (K : (Bool) → Heap → Prop) (h0 : Heap) : Prop :=
  HC PG f_l20_awake [] [.c .bool] (fun (e1 : Bool) h2 =>
   CondP (!e1) (
    K false h2) (
    HC PG f_graph_New [] [.c .ptr] (fun (e3 : Option Addr) h4 =>
     At (hnew h4 [.slice none 0 0, .int .u32 1] t_r20_Graph) (fun h5 =>
      LoopP (fun I6 (t7 : Int) h8 => -- (31)
       CondP (decide (t7 < (x0.len : Int))) (
        Join (fun (t23 : Unit) h24 => -- 
         I6 (IntKind.wrap .i64 (t7 + 1)) h24) (fun J9 =>
         (((0 : Int) ≤ t7 ∧ t7 < ((x0.len : Nat) : Int)) ∧ ∃ a10 : Addr, x0.a = some a10 ∧
          ∃ v11 : Int, hcell h8 (adr (adr a10 (t7.toNat * 4)) 0) = some (.int .u8 v11) ∧
          ∃ v12 : Int, hcell h8 (adr (adr a10 (t7.toNat * 4)) 1) = some (.int .u32 v12) ∧
          ∃ v13 : SliceV, hcell h8 (adr (adr a10 (t7.toNat * 4)) 2) = some (.slice v13.a v13.len v13.cap) ∧
          ∃ v14 : Bool, hcell h8 (adr (adr a10 (t7.toNat * 4)) 3) = some (.bool v14) ∧
          At (hnew h8 [.int .u8 0, .int .u32 0, .slice none 0 0, .bool false] t_l20_Act) (fun h15 =>
           (WrS h15 (some (newA h8)) 0 [.int .u8 v11, .int .u32 v12, .slice v13.a v13.len v13.cap, .bool v14] ∧
            At (hsetL h15 (newA h8) 0 [.int .u8 v11, .int .u32 v12, .slice v13.a v13.len v13.cap, .bool v14]) (fun h16 =>
             CondP (decide (t7 < (40 : Int))) (
              ∃ v17 : Int, hcell h16 (adr (newA h8) 0) = some (.int .u8 v17) ∧
              ∃ v18 : Int, hcell h16 (adr (newA h8) 1) = some (.int .u32 v18) ∧
              ∃ v19 : SliceV, hcell h16 (adr (newA h8) 2) = some (.slice v19.a v19.len v19.cap) ∧
              ∃ v20 : Bool, hcell h16 (adr (newA h8) 3) = some (.bool v20) ∧
              HC PG f_l20_do [.pointer e3, .pointer (some (newA h4)), .agg #[.int .u8 v17, .int .u32 v18, .slice v19.a v19.len v19.cap, .bool v20]] [.c .bool] (fun (e21 : Bool) h22 =>
               J9 () h22) h16) (
              J9 () h16))))))) (
        (((0 : Int) ≤ (if 4 < (x1.len : Int) then 4 else (x1.len : Int)) ∧ (if 4 < (x1.len : Int) then 4 else (x1.len : Int)) ≤ ((x1.cap : Nat) : Int)) ∧
         Bd (subAddr x1.a 0 x1.cap 1 : Option Addr) (fun a25 => Bd (((if 4 < (x1.len : Int) then 4 else (x1.len : Int)).toNat) - 0 : Nat) (fun n26 => Bd (x1.cap - 0 : Nat) (fun n27 =>
            HC PG f_graph_Graph_Copy [.pointer e3] [.c .ptr] (fun (e28 : Option Addr) h29 =>
             HC PG f_slices_Clone_A_u32_u32 [.slice a25 n26 n27] [.c .slice] (fun (e30 : SliceV) h31 =>
              HC PG f_graph_Graph_Drop [.pointer e28, .slice e30.a e30.len e30.cap] [.c .slice] (fun (e32 : SliceV) h33 =>
               Join (fun (t39 : Bool) h40 => -- (64)
                CondP t39 (
                 K false h40) (
                 HC PG f_graph_Graph_IDs [.pointer e3] [.c .slice] (fun (e41 : SliceV) h42 =>
                  LoopP (fun I43 (t44 : Int) h45 => -- (68)
                   CondP (decide (t44 < (e41.len : Int))) (
                    (((0 : Int) ≤ t44 ∧ t44 < ((e41.len : Nat) : Int)) ∧ ∃ a46 : Addr, e41.a = some a46 ∧
                     ∃ v47 : Int, hcell h45 (adr a46 (t44.toNat * 1)) = some (.int .u32 v47) ∧
                     LoopP (fun I48 (t49 : Bool × Int) h50 => -- stays(16), (74)
                      CondP (decide (t49.2 < (n26 : Int))) (
                       Join (fun (t56 : Bool) h57 => -- stays(16)
                        I48 (t56, IntKind.wrap .i64 (t49.2 + 1)) h57) (fun J51 =>
                        (((0 : Int) ≤ t49.2 ∧ t49.2 < ((n26 : Nat) : Int)) ∧ ∃ a52 : Addr, a25 = some a52 ∧
                         ∃ v53 : Int, hcell h50 (adr a52 (t49.2.toNat * 1)) = some (.int .u32 v53) ∧
                         CondP t49.1 (
                          J51 true h50) (
                          HC PG f_graph_Graph_Leads [.pointer e3, .int .u32 v53, .int .u32 v47] [.c .bool] (fun (e54 : Bool) h55 =>
                           J51 e54 h55) h50)))) (
                       Join (fun (t69 : Bool) h70 => -- (110)
                        CondP t69 (
                         K false h70) (
                         I43 (IntKind.wrap .i64 (t44 + 1)) h70)) (fun J58 =>
                        HC PG f_graph_Graph_Has [.pointer e28, .int .u32 v47] [.c .bool] (fun (e59 : Bool) h60 =>
                         CondP (!(e59 == t49.1)) (
                          J58 true h60) (
                          HC PG f_slices_Contains_A_u32_u32 [.slice e32.a e32.len e32.cap, .int .u32 v47] [.c .bool] (fun (e61 : Bool) h62 =>
                           CondP (e61 == t49.1) (
                            J58 true h62) (
                            CondP t49.1 (
                             HC PG f_graph_Graph_Parents [.pointer e28, .int .u32 v47] [.c .slice] (fun (e63 : SliceV) h64 =>
                              HC PG f_graph_Graph_Parents [.pointer e3, .int .u32 v47] [.c .slice] (fun (e65 : SliceV) h66 =>
                               HC PG f_slices_Equal_A_u32_u32 [.slice e63.a e63.len e63.cap, .slice e65.a e65.len e65.cap] [.c .bool] (fun (e67 : Bool) h68 =>
                                J58 (!e67) h68) h66) h64) h62) (
                             J58 false h62))) h60)) h50))) (false, 0) h45)) (
                    ∃ a71 : Addr, some (newA h4) = some a71 ∧
                    ∃ v72 : Int, hcell h45 (adr a71 1) = some (.int .u32 v72) ∧
                    At (hnew h45 [.slice none 0 0, .int .u32 v72] t_r20_Graph) (fun h73 =>
                     ∃ a74 : Addr, some (newA h4) = some a74 ∧
                     ∃ v75 : SliceV, hcell h73 (adr a74 0) = some (.slice v75.a v75.len v75.cap) ∧
                     LoopP (fun I76 (t77 : Int) h78 => -- (123)
                      CondP (decide (t77 < (v75.len : Int))) (
                       Join (fun (t98 : Unit) h99 => -- 
                        I76 (IntKind.wrap .i64 (t77 + 1)) h99) (fun J79 =>
                        (((0 : Int) ≤ t77 ∧ t77 < ((v75.len : Nat) : Int)) ∧ ∃ a80 : Addr, v75.a = some a80 ∧
                         ∃ v81 : Int, hcell h78 (adr (adr a80 (t77.toNat * 2)) 0) = some (.int .u32 v81) ∧
                         ∃ v82 : SliceV, hcell h78 (adr (adr a80 (t77.toNat * 2)) 1) = some (.slice v82.a v82.len v82.cap) ∧
                         At (hnew h78 [.int .u32 0, .slice none 0 0] t_r20_Version) (fun h83 =>
                          (WrS h83 (some (newA h78)) 0 [.int .u32 v81, .slice v82.a v82.len v82.cap] ∧
                           At (hsetL h83 (newA h78) 0 [.int .u32 v81, .slice v82.a v82.len v82.cap]) (fun h84 =>
                            ∃ v85 : Int, hcell h84 (adr (newA h78) 0) = some (.int .u32 v85) ∧
                            HC PG f_graph_Graph_Has [.pointer e28, .int .u32 v85] [.c .bool] (fun (e86 : Bool) h87 =>
                             CondP e86 (
                              ∃ a88 : Addr, some (newA h45) = some a88 ∧
                              ∃ v89 : SliceV, hcell h87 (adr a88 0) = some (.slice v89.a v89.len v89.cap) ∧
                              ∃ v90 : Int, hcell h87 (adr (newA h78) 0) = some (.int .u32 v90) ∧
                              ∃ v91 : SliceV, hcell h87 (adr (newA h78) 1) = some (.slice v91.a v91.len v91.cap) ∧
                              At (hnew h87 [.int .u32 v90, .slice v91.a v91.len v91.cap] t_r20_Version) (fun h92 =>
                               (hcell h92 (adr a88 0) = some (.slice v89.a v89.len v89.cap) ∧
                                ∃ xs93, SRow h92 (some (newA h87)) (1 * 2) xs93 ∧
                                AppP (some [.int .u32 0, .slice none 0 0]) 2 32 t_r20_Version v89.a v89.len v89.cap 1 xs93 h92 (fun s94 h95 =>
                                 ∃ a96 : Addr, some (newA h45) = some a96 ∧
                                 (Wr h95 (adr a96 0) ∧
                                  At (hset h95 (adr a96 0) (.slice s94.a s94.len s94.cap)) (fun h97 =>
                                   J79 () h97)))))) (
                              J79 () h87)) h84)))))) (
                       LoopP (fun I100 (t101 : Int) h102 => -- (144)
                        CondP (decide (t101 < (x2.len : Int))) (
                         (((0 : Int) ≤ t101 ∧ t101 < ((x2.len : Nat) : Int)) ∧ ∃ a103 : Addr, x2.a = some a103 ∧
                          ∃ v104 : Int, hcell h102 (adr (adr a103 (t101.toNat * 4)) 0) = some (.int .u8 v104) ∧
                          ∃ v105 : Int, hcell h102 (adr (adr a103 (t101.toNat * 4)) 1) = some (.int .u32 v105) ∧
                          ∃ v106 : SliceV, hcell h102 (adr (adr a103 (t101.toNat * 4)) 2) = some (.slice v106.a v106.len v106.cap) ∧
                          ∃ v107 : Bool, hcell h102 (adr (adr a103 (t101.toNat * 4)) 3) = some (.bool v107) ∧
                          At (hnew h102 [.int .u8 0, .int .u32 0, .slice none 0 0, .bool false] t_l20_Act) (fun h108 =>
                           (WrS h108 (some (newA h102)) 0 [.int .u8 v104, .int .u32 v105, .slice v106.a v106.len v106.cap, .bool v107] ∧
                            At (hsetL h108 (newA h102) 0 [.int .u8 v104, .int .u32 v105, .slice v106.a v106.len v106.cap, .bool v107]) (fun h109 =>
                             Join (fun (t117 : Bool) h118 => -- (157)
                              CondP t117 (
                               K false h118) (
                               I100 (IntKind.wrap .i64 (t101 + 1)) h118)) (fun J110 =>
                              CondP (decide (t101 < (15 : Int))) (
                               ∃ v111 : Int, hcell h109 (adr (newA h102) 0) = some (.int .u8 v111) ∧
                               ∃ v112 : Int, hcell h109 (adr (newA h102) 1) = some (.int .u32 v112) ∧
                               ∃ v113 : SliceV, hcell h109 (adr (newA h102) 2) = some (.slice v113.a v113.len v113.cap) ∧
                               ∃ v114 : Bool, hcell h109 (adr (newA h102) 3) = some (.bool v114) ∧
                               HC PG f_l20_do [.pointer e28, .pointer (some (newA h45)), .agg #[.int .u8 v111, .int .u32 v112, .slice v113.a v113.len v113.cap, .bool v114]] [.c .bool] (fun (e115 : Bool) h116 =>
                                J110 (!e115) h116) h109) (
                               J110 false h109))))))) (
                         HC PG f_l20_like [.pointer e28, .pointer (some (newA h45))] [.c .bool] (fun (e119 : Bool) h120 =>
                          CondP e119 (
                           HC PG f_l20_like [.pointer e3, .pointer (some (newA h4))] [.c .bool] (fun (e121 : Bool) h122 =>
                            CondP e121 (
                             HC PG f_slices_IsSorted_A_u32_u32 [.slice e32.a e32.len e32.cap] [.c .bool] (fun (e123 : Bool) h124 =>
                              K e123 h124) h122) (
                             K false h122)) h120) (
                           K false h120)) h102)) 0 h78)) 0 h73))) 0 h42) h40)) (fun J34 =>
                HC PG f_slices_Equal_A_u32_u32 [.slice e30.a e30.len e30.cap, .slice a25 n26 n27] [.c .bool] (fun (e35 : Bool) h36 =>
                 CondP (!e35) (
                  J34 true h36) (
                  HC PG f_l20_like [.pointer e3, .pointer (some (newA h4))] [.c .bool] (fun (e37 : Bool) h38 =>
                   J34 (!e37) h38) h36)) h33)) h31) h29) h8)))))) 0 h5)) h2)) h0
def A_l20_GraphDrops : Ann := .node (.reg [0, 1, 2] (.nil)) (.node (.node (.reg [0, 1, 2, 25] (.nil)) (.node (.node (.reg [6] (.nil)) (.nil)) (.nil))) (.node (.reg [0, 1, 2, 7, 8] (.nil)) (.node (.node (.reg [1, 2, 7, 8, 29, 30, 31] (.nil)) (.loop [1, 2, 7, 8, 29, 30] [(31, .c (.int .i64))] (.node (.reg [1, 2, 7, 8, 29, 30, 31, 32] (.nil)) (.node (.nil) (.join [1, 2, 7, 8, 29, 30, 31] [] (.node (.reg [1, 2, 7, 8, 9, 10, 29, 30, 31] (.nil)) (.node (.reg [1, 2, 7, 8, 10, 29, 30, 31, 37] (.nil)) (.node (.reg [1, 2, 7, 8, 29, 30, 31] (.nil)) (.nil)))) (.reg [1, 2, 7, 8, 29, 30, 31] (.nil))))))) (.node (.reg [1, 2, 7, 8] (.nil)) (.node (.reg [1, 2, 7, 8, 11] (.nil)) (.node (.reg [1, 2, 7, 8, 11, 12] (.nil)) (.node (.reg [1, 2, 7, 8, 11, 12, 13] (.nil)) (.node (.join [1, 2, 7, 8, 11, 13] [(64, .c .bool)] (.reg [1, 2, 7, 8, 11, 13, 64] (.nil)) (.node (.node (.reg [6] (.nil)) (.nil)) (.nil))) (.node (.node (.reg [1, 2, 7, 8, 11, 13, 66, 67, 68] (.nil)) (.loop [1, 2, 7, 8, 11, 13, 66, 67] [(68, .c (.int .i64))] (.node (.reg [1, 2, 7, 8, 11, 13, 66, 67, 68, 69] (.nil)) (.node (.nil) (.node (.node (.reg [1, 2, 7, 8, 11, 13, 15, 66, 67, 68] (.nil)) (.node (.reg [1, 2, 7, 8, 11, 13, 15, 16, 66, 67, 68] (.nil)) (.node (.node (.reg [1, 2, 7, 8, 11, 13, 15, 16, 66, 67, 68, 72, 73, 74] (.nil)) (.loop [1, 2, 7, 8, 11, 13, 15, 66, 67, 68, 72, 73] [(16, .c .bool), (74, .c (.int .i64))] (.node (.reg [1, 2, 7, 8, 11, 13, 15, 16, 66, 67, 68, 72, 73, 74, 75] (.nil)) (.node (.nil) (.join [1, 2, 7, 8, 11, 13, 15, 66, 67, 68, 72, 73, 74] [(16, .c .bool)] (.node (.reg [1, 2, 7, 8, 11, 13, 15, 16, 18, 66, 67, 68, 72, 73, 74] (.nil)) (.reg [1, 2, 7, 8, 11, 13, 15, 16, 66, 67, 68, 72, 73, 74] (.nil))) (.reg [1, 2, 7, 8, 11, 13, 15, 16, 66, 67, 68, 72, 73, 74] (.nil))))))) (.join [1, 2, 7, 8, 11, 13, 66, 67, 68] [(110, .c .bool)] (.reg [1, 2, 7, 8, 11, 13, 66, 67, 68, 110] (.nil)) (.node (.node (.reg [6] (.nil)) (.nil)) (.nil)))))) (.reg [1, 2, 7, 8, 11, 13, 66, 67, 68] (.nil))))))) (.node (.reg [2, 7, 8, 11, 13, 19] (.nil)) (.node (.node (.reg [2, 7, 8, 11, 13, 19, 121, 122, 123] (.nil)) (.loop [2, 7, 8, 11, 13, 19, 121, 122] [(123, .c (.int .i64))] (.node (.reg [2, 7, 8, 11, 13, 19, 121, 122, 123, 124] (.nil)) (.node (.nil) (.join [2, 7, 8, 11, 13, 19, 121, 122, 123] [] (.node (.reg [2, 7, 8, 11, 13, 19, 21, 121, 122, 123] (.nil)) (.node (.reg [2, 7, 8, 11, 13, 19, 21, 121, 122, 123, 130] (.nil)) (.node (.reg [2, 7, 8, 11, 13, 19, 121, 122, 123] (.draw [.mk 0 2047 524288 2722258935367507707706996859454145691648, .mk 0 2047 524288 5444517870735015415413993718908291383296, .mk 2 2045 5444517870735015415413993718908291383296 10889035741470030830827987437816582766592, .mk 4 2043 10889035741470030830827987437816582766592 21778071482940061661655974875633165533184, .mk 8 2039 21778071482940061661655974875633165533184 43556142965880123323311949751266331066368, .mk 0 2047 2097152 87112285931760246646623899502532662132736, .mk 32 2015 87112285931760246646623899502532662132736 174224571863520493293247799005065324265472, .mk 80 1967 217780714829400616616559748756331655331840 348449143727040986586495598010130648530944, .mk 255 2046 2722258935367507707706996859454145691648 696898287454081973172991196020261297061888, .mk 511 1791 696898287454081973172991196020261297061888 1393796574908163946345982392040522594123776, .mk 767 1407 1742245718635204932932477990050653242654720 0] (.take 0 (.take 1 (.take 2 (.take 3 (.take 4 (.take 5 (.all (.last 6 (.all (.last 7 (.take 8 (.take 9 (.all (.last 10 (.done))))))))))))))))) (.nil)))) (.reg [2, 7, 8, 11, 13, 19, 121, 122, 123] (.nil))))))) (.node (.node (.reg [7, 8, 11, 13, 19, 142, 143, 144] (.nil)) (.loop [7, 8, 11, 13, 19, 142, 143] [(144, .c (.int .i64))] (.node (.reg [7, 8, 11, 13, 19, 142, 143, 144, 145] (.nil)) (.node (.nil) (.node (.node (.reg [7, 8, 11, 13, 19, 22, 23, 142, 143, 144] (.nil)) (.join [7, 8, 11, 13, 19, 142, 143, 144] [(157, .c .bool)] (.reg [7, 8, 11, 13, 19, 142, 143, 144, 157] (.nil)) (.node (.node (.reg [6] (.nil)) (.nil)) (.nil)))) (.reg [7, 8, 11, 13, 19, 142, 143, 144] (.nil))))))) (.node (.reg [6] (.nil)) (.nil))))))))))))))
theorem E_l20_GraphDrops (x0 : SliceV) (x1 : SliceV) (x2 : SliceV) (K : Tup [.c .bool] → Heap → Prop) (h0 : Heap) : F_l20_GraphDrops x0 x1 x2 K h0 = sBody PG Try.f8 (Try.f8.body.getD .skip) A_l20_GraphDrops [.slice x0.a x0.len x0.cap, .slice x1.a x1.len x1.cap, .slice x2.a x2.len x2.cap] [.c .bool] K h0 := by kernel_rfl
theorem H_l20_GraphDrops (x0 : SliceV) (x1 : SliceV) (x2 : SliceV) {K : Tup [.c .bool] → Heap → Prop} {h0 : Heap} (h : F_l20_GraphDrops x0 x1 x2 K h0) : HC PG f_l20_GraphDrops [.slice x0.a x0.len x0.cap, .slice x1.a x1.len x1.cap, .slice x2.a x2.len x2.cap] [.c .bool] K h0 := HC.intro Try.mixed Try.func8 rfl Try.call8 (Nat.le_of_ble_eq_true rfl) ((E_l20_GraphDrops x0 x1 x2 K h0) ▸ h)
/-- quickset/quicksetlaw20.awake -/
def F_l20_awake  (K : (Bool) → Heap → Prop) (h0 : Heap) : Prop :=
  HC PG f_graph_New [] [.c .ptr] (fun (e1 : Option Addr) h2 =>
   At (hnew h2 [.int .u32 1] t_u32) (fun h3 =>
    At (hnew h3 [.int .u32 1] t_u32) (fun h4 =>
     At (hnew h4 [.int .u32 2, .int .u32 3] t_u32) (fun h5 =>
      At (hnew h5 [.slice none 0 0, .slice (some (newA h2)) 1 1, .slice (some (newA h3)) 1 1, .slice (some (newA h4)) 2 2] t_A_u32) (fun h6 =>
       LoopP (fun I7 (t8 : Int) h9 => -- (14)
        CondP (decide (t8 < (4 : Int))) (
         (((0 : Int) ≤ t8 ∧ t8 < ((4 : Nat) : Int)) ∧ ∃ a10 : Addr, some (newA h5) = some a10 ∧
          ∃ v11 : SliceV, hcell h9 (adr a10 (t8.toNat * 1)) = some (.slice v11.a v11.len v11.cap) ∧
          HC PG f_graph_Graph_Add [.pointer e1, .slice v11.a v11.len v11.cap] [.c (.int .u32), .c (.int .i64)] (fun (e12 : Int × Int) h13 =>
           CondP (e12.2 != (0 : Int)) (
            K false h13) (
            I7 (IntKind.wrap .i64 (t8 + 1)) h13)) h9)) (
         HC PG f_graph_Graph_Meet [.pointer e1, .int .u32 2, .int .u32 3] [.c (.int .u32), .c .bool] (fun (e14 : Int × Bool) h15 =>
          CondP (e14.1 == (1 : Int)) (
           CondP e14.2 (
            HC PG f_graph_Graph_Above [.pointer e1, .int .u32 4] [.c .slice] (fun (e16 : SliceV) h17 =>
             At (hnew h17 [.int .u32 1, .int .u32 2, .int .u32 3, .int .u32 4] t_u32) (fun h18 =>
              HC PG f_slices_Equal_A_u32_u32 [.slice e16.a e16.len e16.cap, .slice (some (newA h17)) 4 4] [.c .bool] (fun (e19 : Bool) h20 =>
               K e19 h20) h18)) h15) (
            K false h15)) (
           K false h15)) h9)) 0 h6))))) h0
def A_l20_awake : Ann := .node (.reg [] (.nil)) (.node (.reg [1] (.nil)) (.node (.node (.reg [1, 12, 13, 14] (.nil)) (.loop [1, 12, 13] [(14, .c (.int .i64))] (.node (.reg [1, 12, 13, 14, 15] (.nil)) (.node (.nil) (.node (.node (.reg [1, 3, 12, 13, 14] (.nil)) (.node (.reg [1, 5, 12, 13, 14] (.nil)) (.node (.reg [1, 12, 13, 14, 25] (.nil)) (.node (.node (.reg [0] (.nil)) (.nil)) (.nil))))) (.reg [1, 12, 13, 14] (.nil))))))) (.node (.reg [1, 6, 7] (.nil)) (.node (.reg [0] (.nil)) (.nil)))))
theorem E_l20_awake  (K : Tup [.c .bool] → Heap → Prop) (h0 : Heap) : F_l20_awake  K h0 = sBody PG Try.f9 (Try.f9.body.getD .skip) A_l20_awake [] [.c .bool] K h0 := by kernel_rfl
theorem H_l20_awake  {K : Tup [.c .bool] → Heap → Prop} {h0 : Heap} (h : F_l20_awake  K h0) : HC PG f_l20_awake [] [.c .bool] K h0 := HC.intro Try.mixed Try.func9 rfl Try.call9 (Nat.le_of_ble_eq_true rfl) ((E_l20_awake  K h0) ▸ h)
/-- quickset/graph.New -/
def F_graph_New  (K : (Option Addr) → Heap → Prop) (h0 : Heap) : Prop :=
  At (Array.push h0 (.map #[] 0)) (fun h1 =>
   At (hnew h1 [.map (some (Array.size h0)), .int .u32 1] t_graph_Graph) (fun h2 =>
    K (some (newA h1)) h2))
def A_graph_New : Ann := .node (.reg [] (.nil)) (.node (.reg [0] (.nil)) (.nil))
theorem E_graph_New  (K : Tup [.c .ptr] → Heap → Prop) (h0 : Heap) : F_graph_New  K h0 = sBody PG Try.f10 (Try.f10.body.getD .skip) A_graph_New [] [.c .ptr] K h0 := by kernel_rfl
theorem H_graph_New  {K : Tup [.c .ptr] → Heap → Prop} {h0 : Heap} (h : F_graph_New  K h0) : HC PG f_graph_New [] [.c .ptr] K h0 := HC.intro Try.mixed Try.func10 rfl Try.call10 (Nat.le_of_ble_eq_true rfl) ((E_graph_New  K h0) ▸ h)
/-- (*quickset/graph.Graph).Add -/
def F_graph_Graph_Add (x0 : Option Addr) (x1 : SliceV) (K : (Int × Int) → Heap → Prop) (h0 : Heap) : Prop :=
  CondP x0.isNone (
   K (0, 4) h0) (
   HC PG f_graph_Graph_may [.pointer x0, .slice x1.a x1.len x1.cap] [.c (.int .i64)] (fun (e1 : Int) h2 =>
    CondP (e1 != (0 : Int)) (
     K (0, e1) h2) (
     HC PG f_graph_Graph_fits [.pointer x0, .slice x1.a x1.len x1.cap] [.c (.int .i64)] (fun (e3 : Int) h4 =>
      CondP (e3 != (0 : Int)) (
       K (0, e3) h4) (
       ∃ a5 : Addr, x0 = some a5 ∧
       ∃ v6 : Int, hcell h4 (adr a5 1) = some (.int .u32 v6) ∧
       CondP (decide (v6 ≥ (2147483648 : Int))) (
        K (0, 6) h4) (
        ∃ a7 : Addr, x0 = some a7 ∧
        ∃ v8 : Int, hcell h4 (adr a7 1) = some (.int .u32 v8) ∧
        ∃ a9 : Addr, x0 = some a9 ∧
        ∃ v10 : Option Nat, hcell h4 (adr a9 0) = some (.map v10) ∧
        HC PG f_slices_Clone_A_u32_u32 [.slice x1.a x1.len x1.cap] [.c .slice] (fun (e11 : SliceV) h12 =>
         (hcell h12 (adr a9 0) = some (.map v10) ∧
          ∃ r13 : Nat, v10 = some r13 ∧ IsMap (.int .u32) h12 r13 ∧
          At (mput h12 r13 (.int .u32 v8) (.slice e11.a e11.len e11.cap)) (fun h14 =>
           ∃ a15 : Addr, x0 = some a15 ∧
           ∃ v16 : Int, hcell h14 (adr a15 1) = some (.int .u32 v16) ∧
           ∃ a17 : Addr, x0 = some a17 ∧
           (Wr h14 (adr a17 1) ∧
            At (hset h14 (adr a17 1) (.int .u32 (IntKind.wrap .u32 (v16 + 1)))) (fun h18 =>
             K (v8, 0) h18))))) h4))) h2)) h0)
def A_graph_Graph_Add : Ann := .node (.reg [0, 1] (.nil)) (.node (.node (.reg [0, 1, 10] (.nil)) (.node (.node (.reg [4, 5] (.nil)) (.nil)) (.nil))) (.node (.node (.reg [0, 1, 6] (.nil)) (.node (.reg [0, 1, 6, 15] (.nil)) (.node (.node (.reg [4, 5] (.nil)) (.nil)) (.nil)))) (.node (.node (.reg [0, 1, 7] (.nil)) (.node (.reg [0, 1, 7, 21] (.nil)) (.node (.node (.reg [4, 5] (.nil)) (.nil)) (.nil)))) (.node (.node (.reg [0, 1, 27] (.nil)) (.node (.node (.reg [4, 5] (.nil)) (.nil)) (.nil))) (.node (.reg [0, 1, 8] (.nil)) (.node (.reg [0, 8] (.draw [.mk 0 255 1 4294967296, .mk 1 254 4294967296 8589934592, .mk 2 253 8589934592 17179869184, .mk 4 251 17179869184 34359738368, .mk 0 255 256 68719476736, .mk 0 255 2 137438953472, .mk 32 223 137438953472 274877906944, .mk 127 167 377957122048 0] (.take 0 (.take 1 (.take 2 (.take 3 (.take 4 (.take 5 (.all (.last 6 (.all (.last 7 (.done))))))))))))) (.node (.reg [8] (.nil)) (.node (.reg [4, 5] (.nil)) (.nil)))))))))
theorem E_graph_Graph_Add (x0 : Option Addr) (x1 : SliceV) (K : Tup [.c (.int .u32), .c (.int .i64)] → Heap → Prop) (h0 : Heap) : F_graph_Graph_Add x0 x1 K h0 = sBody PG Try.f11 (Try.f11.body.getD .skip) A_graph_Graph_Add [.pointer x0, .slice x1.a x1.len x1.cap] [.c (.int .u32), .c (.int .i64)] K h0 := by kernel_rfl
theorem H_graph_Graph_Add (x0 : Option Addr) (x1 : SliceV) {K : Tup [.c (.int .u32), .c (.int .i64)] → Heap → Prop} {h0 : Heap} (h : F_graph_Graph_Add x0 x1 K h0) : HC PG f_graph_Graph_Add [.pointer x0, .slice x1.a x1.len x1.cap] [.c (.int .u32), .c (.int .i64)] K h0 := HC.intro Try.mixed Try.func11 rfl Try.call11 (Nat.le_of_ble_eq_true rfl) ((E_graph_Graph_Add x0 x1 K h0) ▸ h)
/-- (*quickset/graph.Graph).Meet -/
def F_graph_Graph_Meet (x0 : Option Addr) (x1 : Int) (x2 : Int) (K : (Int × Bool) → Heap → Prop) (h0 : Heap) : Prop :=
  At (hnew h0 [.int .u32 x1] t_u32) (fun h1 =>
   HC PG f_graph_Graph_reach [.pointer x0, .slice (some (newA h0)) 1 1] [.c .map] (fun (e2 : Option Nat) h3 =>
    At (hnew h3 [.int .u32 x2] t_u32) (fun h4 =>
     HC PG f_graph_Graph_reach [.pointer x0, .slice (some (newA h3)) 1 1] [.c .map] (fun (e5 : Option Nat) h6 =>
      At (hnew h6 [.map none] t_M_u32_int) (fun h7 =>
       (Wr h7 (newA h6) ∧
        At (hset h7 (newA h6) (.map e5)) (fun h8 =>
         HC PG f_maps_DeleteFunc_M_u32_int_u32_int [.map e2, .func (.func f_graph_Graph_Meet_1) #[] #[.pointer (some (newA h6))]] [] (fun (e9 : Unit) h10 =>
          ∃ c11 : Nat, (e2 = none ∧ c11 = 0 ∨ ∃ r es, e2 = some r ∧ h10[r]? = some (.map es c11)) ∧
          At (Array.push h10 (.mapIter e2 c11 #[] c11)) (fun h12 =>
           LoopP (fun I13 (t14 : Int) h15 => -- best(10)
            NextP (newA h10) h15 (
             K (t14, decide (t14 > (0 : Int))) h15) (fun e16 h17 =>
             (newA h10).off = 0 ∧ ∃ (e21 : MapEntry) (k22 : Int) (y23 : Int), IterAt h17 (newA h10).block e21 ∧ e21.key = .int .u32 k22 ∧ e21.val = .int .i64 y23 ∧
             I13 (if k22 > t14 then k22 else t14) h17)) 0 h12)) h8)))) h4)) h1)
def A_graph_Graph_Meet : Ann := .node (.reg [0, 1, 2] (.nil)) (.node (.reg [8, 9] (.nil)) (.node (.reg [8] (.nil)) (.node (.reg [8, 10] (.nil)) (.node (.node (.reg [10, 24] (.nil)) (.loop [24] [(10, .c (.int .u32))] (.node (.reg [10, 24, 26] (.nil)) (.node (.nil) (.node (.reg [10, 11, 24] (.kinds (.c (.int .u32)) (.c (.int .i64)))) (.reg [10, 24] (.nil))))))) (.node (.reg [6, 7] (.nil)) (.nil))))))
theorem E_graph_Graph_Meet (x0 : Option Addr) (x1 : Int) (x2 : Int) (K : Tup [.c (.int .u32), .c .bool] → Heap → Prop) (h0 : Heap) : F_graph_Graph_Meet x0 x1 x2 K h0 = sBody PG Try.f12 (Try.f12.body.getD .skip) A_graph_Graph_Meet [.pointer x0, .int .u32 x1, .int .u32 x2] [.c (.int .u32), .c .bool] K h0 := by kernel_rfl
theorem H_graph_Graph_Meet (x0 : Option Addr) (x1 : Int) (x2 : Int) {K : Tup [.c (.int .u32), .c .bool] → Heap → Prop} {h0 : Heap} (h : F_graph_Graph_Meet x0 x1 x2 K h0) : HC PG f_graph_Graph_Meet [.pointer x0, .int .u32 x1, .int .u32 x2] [.c (.int .u32), .c .bool] K h0 := HC.intro Try.mixed Try.func12 rfl Try.call12 (Nat.le_of_ble_eq_true rfl) ((E_graph_Graph_Meet x0 x1 x2 K h0) ▸ h)
/-- (*quickset/graph.Graph).Above -/
def F_graph_Graph_Above (x0 : Option Addr) (x1 : Int) (K : (SliceV) → Heap → Prop) (h0 : Heap) : Prop :=
  At (hnew h0 [.int .u32 x1] t_u32) (fun h1 =>
   HC PG f_graph_Graph_reach [.pointer x0, .slice (some (newA h0)) 1 1] [.c .map] (fun (e2 : Option Nat) h3 =>
    HC PG f_maps_Keys_M_u32_int_u32_int [.map e2] [.c .raw] (fun (e4 : Value) h5 =>
     HC PG f_slices_Sorted_u32 [e4] [.c .slice] (fun (e6 : SliceV) h7 =>
      K e6 h7) h5) h3) h1)
def A_graph_Graph_Above : Ann := .node (.reg [0, 1] (.nil)) (.node (.reg [4] (.nil)) (.nil))
theorem E_graph_Graph_Above (x0 : Option Addr) (x1 : Int) (K : Tup [.c .slice] → Heap → Prop) (h0 : Heap) : F_graph_Graph_Above x0 x1 K h0 = sBody PG Try.f13 (Try.f13.body.getD .skip) A_graph_Graph_Above [.pointer x0, .int .u32 x1] [.c .slice] K h0 := by kernel_rfl
theorem H_graph_Graph_Above (x0 : Option Addr) (x1 : Int) {K : Tup [.c .slice] → Heap → Prop} {h0 : Heap} (h : F_graph_Graph_Above x0 x1 K h0) : HC PG f_graph_Graph_Above [.pointer x0, .int .u32 x1] [.c .slice] K h0 := HC.intro Try.mixed Try.func13 rfl Try.call13 (Nat.le_of_ble_eq_true rfl) ((E_graph_Graph_Above x0 x1 K h0) ▸ h)
/-- (*quickset/graph.Graph).Leads -/
def F_graph_Graph_Leads (x0 : Option Addr) (x1 : Int) (x2 : Int) (K : (Bool) → Heap → Prop) (h0 : Heap) : Prop :=
  At (hnew h0 [.int .u32 x1] t_u32) (fun h1 =>
   HC PG f_graph_Graph_reach [.pointer x0, .slice (some (newA h0)) 1 1] [.c .map] (fun (e2 : Option Nat) h3 =>
    ∃ (y4 : Int) (b5 : Bool), MapGet (.int .u32) (.int .i64 0) h3 e2 (.int .u32 x2) (.int .i64 y4) b5 ∧
    K (decide (y4 > (0 : Int))) h3) h1)
def A_graph_Graph_Leads : Ann := .node (.reg [0, 1, 2] (.nil)) (.node (.reg [6] (.nil)) (.nil))
theorem E_graph_Graph_Leads (x0 : Option Addr) (x1 : Int) (x2 : Int) (K : Tup [.c .bool] → Heap → Prop) (h0 : Heap) : F_graph_Graph_Leads x0 x1 x2 K h0 = sBody PG Try.f14 (Try.f14.body.getD .skip) A_graph_Graph_Leads [.pointer x0, .int .u32 x1, .int .u32 x2] [.c .bool] K h0 := by kernel_rfl
theorem H_graph_Graph_Leads (x0 : Option Addr) (x1 : Int) (x2 : Int) {K : Tup [.c .bool] → Heap → Prop} {h0 : Heap} (h : F_graph_Graph_Leads x0 x1 x2 K h0) : HC PG f_graph_Graph_Leads [.pointer x0, .int .u32 x1, .int .u32 x2] [.c .bool] K h0 := HC.intro Try.mixed Try.func14 rfl Try.call14 (Nat.le_of_ble_eq_true rfl) ((E_graph_Graph_Leads x0 x1 x2 K h0) ▸ h)
/-- quickset/quicksetlaw20.do -/
def F_l20_do (x0 : Option Addr) (x1 : Option Addr) (x2 : Int × Int × SliceV × Bool) (K : (Bool) → Heap → Prop) (h0 : Heap) : Prop :=
  At (hnew h0 [.int .u8 x2.1, .int .u32 x2.2.1, .slice x2.2.2.1.a x2.2.2.1.len x2.2.2.1.cap, .bool x2.2.2.2] t_l20_Act) (fun h1 =>
   ∃ v2 : Int, hcell h1 (adr (newA h0) 0) = some (.int .u8 v2) ∧
   ∃ v3 : Int, hcell h1 (adr (newA h0) 1) = some (.int .u32 v3) ∧
   ∃ v4 : SliceV, hcell h1 (adr (newA h0) 2) = some (.slice v4.a v4.len v4.cap) ∧
   ∃ v5 : Bool, hcell h1 (adr (newA h0) 3) = some (.bool v5) ∧
   HC PG f_l20_Act_parents [.agg #[.int .u8 v2, .int .u32 v3, .slice v4.a v4.len v4.cap, .bool v5], .pointer x1] [.c .slice] (fun (e6 : SliceV) h7 =>
    ∃ v8 : Int, hcell h7 (adr (newA h0) 0) = some (.int .u8 v8) ∧
    ((8 : Int) ≠ 0 ∧
     CondP ((Int.tmod v8 8) == (5 : Int)) (
      ∃ v9 : Int, hcell h7 (adr (newA h0) 1) = some (.int .u32 v9) ∧
      ∃ v10 : Int, hcell h7 (adr (newA h0) 1) = some (.int .u32 v10) ∧
      HC PG f_graph_Graph_Put [.pointer x0, .int .u32 v9, .slice e6.a e6.len e6.cap] [.c (.int .i64)] (fun (e11 : Int) h12 =>
       (hcell h12 (adr (newA h0) 1) = some (.int .u32 v10) ∧
        HC PG f_r20_Put [.pointer x1, .int .u32 v10, .slice e6.a e6.len e6.cap] [.c (.int .i64)] (fun (e13 : Int) h14 =>
         K (e11 == e13) h14) h12)) h7) (
      CondP ((Int.tmod v8 8) == (6 : Int)) (
       HC PG f_graph_Graph_Drop [.pointer x0, .slice e6.a e6.len e6.cap] [.c .slice] (fun (e15 : SliceV) h16 =>
        HC PG f_r20_Drop [.pointer x1, .slice e6.a e6.len e6.cap] [.c .slice] (fun (e17 : SliceV) h18 =>
         HC PG f_slices_Equal_A_u32_u32 [.slice e15.a e15.len e15.cap, .slice e17.a e17.len e17.cap] [.c .bool] (fun (e19 : Bool) h20 =>
          K e19 h20) h18) h16) h7) (
       CondP ((Int.tmod v8 8) == (7 : Int)) (
        Join (fun (t26 : Bool) h27 => -- ok(8)
         Join (fun (t32 : Unit) h33 => -- 
          ∃ v34 : Int, hcell h33 (adr (newA h0) 1) = some (.int .u32 v34) ∧
          HC PG f_graph_Graph_SetNext [.pointer x0, .int .u32 v34] [.c .bool] (fun (e35 : Bool) h36 =>
           K (e35 == t26) h36) h33) (fun J28 =>
          CondP t26 (
           ∃ v29 : Int, hcell h27 (adr (newA h0) 1) = some (.int .u32 v29) ∧
           ∃ a30 : Addr, x1 = some a30 ∧
           (Wr h27 (adr a30 1) ∧
            At (hset h27 (adr a30 1) (.int .u32 v29)) (fun h31 =>
             J28 () h31))) (
           J28 () h27))) (fun J21 =>
         ∃ v22 : Int, hcell h7 (adr (newA h0) 1) = some (.int .u32 v22) ∧
         ∃ a23 : Addr, x1 = some a23 ∧
         ∃ v24 : Int, hcell h7 (adr a23 1) = some (.int .u32 v24) ∧
         CondP (decide (v22 ≥ v24)) (
          ∃ v25 : Int, hcell h7 (adr (newA h0) 1) = some (.int .u32 v25) ∧
          J21 (decide (v25 ≤ (2147483648 : Int))) h7) (
          J21 false h7))) (
        HC PG f_graph_Graph_Add [.pointer x0, .slice e6.a e6.len e6.cap] [.c (.int .u32), .c (.int .i64)] (fun (e37 : Int × Int) h38 =>
         HC PG f_r20_Add [.pointer x1, .slice e6.a e6.len e6.cap] [.c (.int .u32), .c (.int .i64)] (fun (e39 : Int × Int) h40 =>
          CondP (e37.1 == e39.1) (
           K (e37.2 == e39.2) h40) (
           K false h40)) h38) h7))))) h1)
def A_l20_do : Ann := .node (.reg [0, 1, 5] (.nil)) (.node (.reg [0, 1, 5, 7] (.nil)) (.node (.node (.reg [0, 1, 5, 7, 18] (.nil)) (.node (.reg [0, 1, 5, 7, 18, 19] (.nil)) (.node (.node (.reg [6] (.draw [.mk 0 4095 1 2097152, .mk 0 4095 32 4194304, .mk 2 4093 4194304 8388608, .mk 0 4095 128 16777216, .mk 13 4082 27262976 33554432, .mk 0 4095 2 67108864, .mk 0 4095 32 134217728, .mk 64 4031 134217728 268435456, .mk 0 4095 128 536870912, .mk 432 3679 872415232 1073741824, .mk 528 3567 1107296256 2147483648, .mk 2047 3071 2147483648 64] (.take 0 (.take 1 (.take 2 (.take 3 (.take 5 (.take 6 (.take 7 (.take 8 (.all (.last 4 (.all (.last 9 (.take 10 (.take 11 (.done))))))))))))))))) (.nil)) (.node (.reg [0, 1, 5, 7, 18, 32] (.nil)) (.node (.node (.reg [6] (.nil)) (.nil)) (.node (.reg [0, 1, 5, 7, 41] (.nil)) (.node (.join [0, 1, 5] [(8, .c .bool)] (.reg [0, 1, 5, 8] (.draw [.mk 0 8191 32 8796093022208, .mk 1 8190 8796093022208 17592186044416, .mk 0 8191 2 35184372088832, .mk 4 8187 35184372088832 70368744177664, .mk 8 8183 70368744177664 140737488355328, .mk 16 8175 140737488355328 281474976710656, .mk 34 8157 299067162755072 562949953421312, .mk 64 8127 562949953421312 1125899906842624, .mk 128 8063 1125899906842656 2251799813685248, .mk 384 7807 3377699720527872 4503599627370496, .mk 640 7551 5629499534213120 9007199254740992, .mk 1152 7039 10133099161583616 18014398509481984, .mk 4095 6143 18014398509481984 256] (.take 0 (.take 1 (.take 2 (.take 3 (.take 4 (.take 5 (.take 6 (.take 7 (.split 50 (.take 8 (.take 9 (.take 10 (.take 11 (.take 12 (.done)))))) (.take 8 (.take 9 (.take 10 (.take 11 (.take 12 (.done))))))))))))))))) (.join [0, 5, 8] [] (.node (.reg [0, 1, 5, 8, 55] (.nil)) (.node (.reg [0, 5, 8] (.nil)) (.nil))) (.node (.reg [6] (.nil)) (.nil)))) (.nil)))))))) (.node (.reg [1, 7, 9, 10] (.nil)) (.node (.reg [9, 10, 11, 12] (.nil)) (.node (.reg [6] (.nil)) (.nil))))))
theorem E_l20_do (x0 : Option Addr) (x1 : Option Addr) (x2 : Int × Int × SliceV × Bool) (K : Tup [.c .bool] → Heap → Prop) (h0 : Heap) : F_l20_do x0 x1 x2 K h0 = sBody PG Try.f15 (Try.f15.body.getD .skip) A_l20_do [.pointer x0, .pointer x1, .agg #[.int .u8 x2.1, .int .u32 x2.2.1, .slice x2.2.2.1.a x2.2.2.1.len x2.2.2.1.cap, .bool x2.2.2.2]] [.c .bool] K h0 := by kernel_rfl
theorem H_l20_do (x0 : Option Addr) (x1 : Option Addr) (x2 : Int × Int × SliceV × Bool) {K : Tup [.c .bool] → Heap → Prop} {h0 : Heap} (h : F_l20_do x0 x1 x2 K h0) : HC PG f_l20_do [.pointer x0, .pointer x1, .agg #[.int .u8 x2.1, .int .u32 x2.2.1, .slice x2.2.2.1.a x2.2.2.1.len x2.2.2.1.cap, .bool x2.2.2.2]] [.c .bool] K h0 := HC.intro Try.mixed Try.func15 rfl Try.call15 (Nat.le_of_ble_eq_true rfl) ((E_l20_do x0 x1 x2 K h0) ▸ h)
/-- (*quickset/graph.Graph).IDs -/
def F_graph_Graph_IDs (x0 : Option Addr) (K : (SliceV) → Heap → Prop) (h0 : Heap) : Prop :=
  CondP x0.isNone (
   K ⟨none, 0, 0⟩ h0) (
   ∃ a1 : Addr, x0 = some a1 ∧
   ∃ v2 : Option Nat, hcell h0 (adr a1 0) = some (.map v2) ∧
   HC PG f_maps_Keys_M_u32_A_u32_u32_A_u32 [.map v2] [.c .raw] (fun (e3 : Value) h4 =>
    HC PG f_slices_Sorted_u32 [e3] [.c .slice] (fun (e5 : SliceV) h6 =>
     K e5 h6) h4) h0)
def A_graph_Graph_IDs : Ann := .node (.reg [0] (.nil)) (.node (.node (.reg [0, 4] (.nil)) (.node (.node (.reg [2] (.nil)) (.nil)) (.nil))) (.node (.reg [2] (.nil)) (.nil)))
theorem E_graph_Graph_IDs (x0 : Option Addr) (K : Tup [.c .slice] → Heap → Prop) (h0 : Heap) : F_graph_Graph_IDs x0 K h0 = sBody PG Try.f16 (Try.f16.body.getD .skip) A_graph_Graph_IDs [.pointer x0] [.c .slice] K h0 := by kernel_rfl
theorem H_graph_Graph_IDs (x0 : Option Addr) {K : Tup [.c .slice] → Heap → Prop} {h0 : Heap} (h : F_graph_Graph_IDs x0 K h0) : HC PG f_graph_Graph_IDs [.pointer x0] [.c .slice] K h0 := HC.intro Try.mixed Try.func16 rfl Try.call16 (Nat.le_of_ble_eq_true rfl) ((E_graph_Graph_IDs x0 K h0) ▸ h)
/-- quickset/quicksetref20.Above -/
def F_r20_Above (x0 : Option Addr) (x1 : Int) (K : (SliceV) → Heap → Prop) (h0 : Heap) : Prop :=
  At (Array.push h0 (.map #[] 0)) (fun h1 =>
   ∃ r2 : Nat, some (Array.size h0) = some r2 ∧ IsMap (.int .u32) h1 r2 ∧
   At (mput h1 r2 (.int .u32 x1) (.int .i64 1)) (fun h3 =>
    ∃ a4 : Addr, x0 = some a4 ∧
    ∃ v5 : SliceV, hcell h3 (adr a4 0) = some (.slice v5.a v5.len v5.cap) ∧
    LoopP (fun I6 (t7 : SliceV × Int) h8 => -- out(6), i(7)
     CondP (decide (t7.2 ≥ (0 : Int))) (
      Join (fun (t36 : SliceV) h37 => -- out(6)
       I6 (t36, IntKind.wrap .i64 (t7.2 - 1)) h37) (fun J9 =>
       ∃ a10 : Addr, x0 = some a10 ∧
       ∃ v11 : SliceV, hcell h8 (adr a10 0) = some (.slice v11.a v11.len v11.cap) ∧
       (((0 : Int) ≤ t7.2 ∧ t7.2 < ((v11.len : Nat) : Int)) ∧ ∃ a12 : Addr, v11.a = some a12 ∧
        ∃ v13 : Int, hcell h8 (adr (adr a12 (t7.2.toNat * 2)) 0) = some (.int .u32 v13) ∧
        ∃ v14 : SliceV, hcell h8 (adr (adr a12 (t7.2.toNat * 2)) 1) = some (.slice v14.a v14.len v14.cap) ∧
        At (hnew h8 [.int .u32 0, .slice none 0 0] t_r20_Version) (fun h15 =>
         (WrS h15 (some (newA h8)) 0 [.int .u32 v13, .slice v14.a v14.len v14.cap] ∧
          At (hsetL h15 (newA h8) 0 [.int .u32 v13, .slice v14.a v14.len v14.cap]) (fun h16 =>
           ∃ v17 : Int, hcell h16 (adr (newA h8) 0) = some (.int .u32 v17) ∧
           ∃ (y18 : Int) (b19 : Bool), MapGet (.int .u32) (.int .i64 0) h16 (some (Array.size h0)) (.int .u32 v17) (.int .i64 y18) b19 ∧
           CondP (y18 == (0 : Int)) (
            J9 t7.1 h16) (
            Join (fun (t26 : SliceV) h27 => -- out(6)
             ∃ v28 : SliceV, hcell h27 (adr (newA h8) 1) = some (.slice v28.a v28.len v28.cap) ∧
             LoopP (fun I29 (t30 : Int) h31 => -- (44)
              CondP (decide (t30 < (v28.len : Int))) (
               (((0 : Int) ≤ t30 ∧ t30 < ((v28.len : Nat) : Int)) ∧ ∃ a32 : Addr, v28.a = some a32 ∧
                ∃ v33 : Int, hcell h31 (adr a32 (t30.toNat * 1)) = some (.int .u32 v33) ∧
                ∃ r34 : Nat, some (Array.size h0) = some r34 ∧ IsMap (.int .u32) h31 r34 ∧
                At (mput h31 r34 (.int .u32 v33) (.int .i64 1)) (fun h35 =>
                 I29 (IntKind.wrap .i64 (t30 + 1)) h35))) (
               J9 t26 h31)) 0 h27) (fun J20 =>
             ∃ v21 : Int, hcell h16 (adr (newA h8) 0) = some (.int .u32 v21) ∧
             At (hnew h16 [.int .u32 v21] t_u32) (fun h22 =>
              ∃ xs23, SRow h22 t7.1.a (t7.1.len * 1) xs23 ∧
              AppP (some [.int .u32 0]) 1 4 t_u32 (some (newA h16)) 1 1 t7.1.len xs23 h22 (fun s24 h25 =>
               J20 s24 h25)))))))))) (
      K t7.1 h8)) (⟨none, 0, 0⟩, IntKind.wrap .i64 ((v5.len : Int) - 1)) h3))
def A_r20_Above : Ann := .node (.reg [0, 1] (.nil)) (.node (.reg [0, 5] (.nil)) (.node (.reg [0, 5, 6] (.nil)) (.node (.node (.reg [0, 5, 6, 7] (.nil)) (.loop [0, 5] [(6, .c .slice), (7, .c (.int .i64))] (.node (.node (.reg [0, 5, 6, 7, 21] (.nil)) (.nil)) (.join [0, 5, 7] [(6, .c .slice)] (.node (.reg [0, 5, 6, 7, 8] (.nil)) (.node (.node (.reg [0, 5, 6, 7, 8, 35] (.nil)) (.nil)) (.join [0, 5, 7, 8] [(6, .c .slice)] (.reg [0, 5, 6, 7, 8] (.nil)) (.node (.reg [0, 5, 6, 7, 42, 43, 44] (.nil)) (.loop [0, 5, 6, 7, 42, 43] [(44, .c (.int .i64))] (.node (.reg [0, 5, 6, 7, 42, 43, 44, 45] (.nil)) (.node (.nil) (.node (.node (.reg [0, 5, 6, 7, 10, 42, 43, 44] (.nil)) (.reg [0, 5, 6, 7, 42, 43, 44] (.nil))) (.reg [0, 5, 6, 7, 42, 43, 44] (.nil)))))))))) (.reg [0, 5, 6, 7] (.nil)))))) (.node (.reg [4] (.nil)) (.nil)))))
theorem E_r20_Above (x0 : Option Addr) (x1 : Int) (K : Tup [.c .slice] → Heap → Prop) (h0 : Heap) : F_r20_Above x0 x1 K h0 = sBody PG Try.f17 (Try.f17.body.getD .skip) A_r20_Above [.pointer x0, .int .u32 x1] [.c .slice] K h0 := by kernel_rfl
theorem H_r20_Above (x0 : Option Addr) (x1 : Int) {K : Tup [.c .slice] → Heap → Prop} {h0 : Heap} (h : F_r20_Above x0 x1 K h0) : HC PG f_r20_Above [.pointer x0, .int .u32 x1] [.c .slice] K h0 := HC.intro Try.mixed Try.func17 rfl Try.call17 (Nat.le_of_ble_eq_true rfl) ((E_r20_Above x0 x1 K h0) ▸ h)
/-- slices.Equal[[]uint32,uint32] -/
def F_slices_Equal_A_u32_u32 (x0 : SliceV) (x1 : SliceV) (K : (Bool) → Heap → Prop) (h0 : Heap) : Prop :=
  CondP ((x0.len : Int) != (x1.len : Int)) (
   K false h0) (
   LoopP (fun I1 (t2 : Int) h3 => -- (13)
    CondP (decide (t2 < (x0.len : Int))) (
     (((0 : Int) ≤ t2 ∧ t2 < ((x0.len : Nat) : Int)) ∧ ∃ a4 : Addr, x0.a = some a4 ∧
      ∃ v5 : Int, hcell h3 (adr a4 (t2.toNat * 1)) = some (.int .u32 v5) ∧
      (((0 : Int) ≤ t2 ∧ t2 < ((x1.len : Nat) : Int)) ∧ ∃ a6 : Addr, x1.a = some a6 ∧
       ∃ v7 : Int, hcell h3 (adr a6 (t2.toNat * 1)) = some (.int .u32 v7) ∧
       CondP (v5 != v7) (
        K false h3) (
        I1 (IntKind.wrap .i64 (t2 + 1)) h3)))) (
     K true h3)) 0 h0)
def A_slices_Equal_A_u32_u32 : Ann := .node (.reg [0, 1] (.nil)) (.node (.node (.reg [0, 1, 10] (.nil)) (.node (.node (.reg [4] (.nil)) (.nil)) (.nil))) (.node (.node (.reg [0, 1, 12, 13] (.nil)) (.loop [0, 1, 12] [(13, .c (.int .i64))] (.node (.reg [0, 1, 12, 13, 14] (.nil)) (.node (.nil) (.node (.node (.reg [0, 1, 5, 12, 13] (.nil)) (.node (.reg [0, 1, 12, 13, 24] (.draw [.mk 0 511 1 65536, .mk 0 511 32 131072, .mk 3 508 196608 262144, .mk 4 507 262144 524288, .mk 0 511 2 1048576, .mk 0 511 32 2097152, .mk 48 463 3145728 4194304, .mk 64 447 4194304 8388608, .mk 136 375 8912896 16777216] (.take 0 (.take 1 (.take 2 (.take 3 (.take 4 (.take 5 (.take 6 (.take 7 (.take 8 (.done)))))))))))) (.node (.node (.reg [4] (.nil)) (.nil)) (.nil)))) (.reg [0, 1, 12, 13] (.nil))))))) (.node (.reg [4] (.nil)) (.nil))))
theorem E_slices_Equal_A_u32_u32 (x0 : SliceV) (x1 : SliceV) (K : Tup [.c .bool] → Heap → Prop) (h0 : Heap) : F_slices_Equal_A_u32_u32 x0 x1 K h0 = sBody PG Try.f18 (Try.f18.body.getD .skip) A_slices_Equal_A_u32_u32 [.slice x0.a x0.len x0.cap, .slice x1.a x1.len x1.cap] [.c .bool] K h0 := by kernel_rfl
theorem H_slices_Equal_A_u32_u32 (x0 : SliceV) (x1 : SliceV) {K : Tup [.c .bool] → Heap → Prop} {h0 : Heap} (h : F_slices_Equal_A_u32_u32 x0 x1 K h0) : HC PG f_slices_Equal_A_u32_u32 [.slice x0.a x0.len x0.cap, .slice x1.a x1.len x1.cap] [.c .bool] K h0 := HC.intro Try.mixed Try.func18 rfl Try.call18 (Nat.le_of_ble_eq_true rfl) ((E_slices_Equal_A_u32_u32 x0 x1 K h0) ▸ h)
/-- quickset/quicksetref20.Meet -/
def F_r20_Meet (x0 : Option Addr) (x1 : Int) (x2 : Int) (K : (Int × Bool) → Heap → Prop) (h0 : Heap) : Prop :=
  HC PG f_r20_Above [.pointer x0, .int .u32 x1] [.c .slice] (fun (e1 : SliceV) h2 =>
   HC PG f_r20_Above [.pointer x0, .int .u32 x2] [.c .slice] (fun (e3 : SliceV) h4 =>
    LoopP (fun I5 (t6 : SliceV × Int) h7 => -- both(10), (27)
     CondP (decide (t6.2 < (e1.len : Int))) (
      Join (fun (t17 : SliceV) h18 => -- both(10)
       I5 (t17, IntKind.wrap .i64 (t6.2 + 1)) h18) (fun J8 =>
       (((0 : Int) ≤ t6.2 ∧ t6.2 < ((e1.len : Nat) : Int)) ∧ ∃ a9 : Addr, e1.a = some a9 ∧
        ∃ v10 : Int, hcell h7 (adr a9 (t6.2.toNat * 1)) = some (.int .u32 v10) ∧
        HC PG f_r20_Has [.slice e3.a e3.len e3.cap, .int .u32 v10] [.c .bool] (fun (e11 : Bool) h12 =>
         CondP e11 (
          At (hnew h12 [.int .u32 v10] t_u32) (fun h13 =>
           ∃ xs14, SRow h13 (some (newA h12)) (1 * 1) xs14 ∧
           AppP (some [.int .u32 0]) 1 4 t_u32 t6.1.a t6.1.len t6.1.cap 1 xs14 h13 (fun s15 h16 =>
            J8 s15 h16))) (
          J8 t6.1 h12)) h7))) (
      LoopP (fun I19 (t20 : Int × Int) h21 => -- best(13), (41)
       CondP (decide (t20.2 < (t6.1.len : Int))) (
        Join (fun (t43 : Int) h44 => -- best(13)
         I19 (t43, IntKind.wrap .i64 (t20.2 + 1)) h44) (fun J22 =>
         (((0 : Int) ≤ t20.2 ∧ t20.2 < ((t6.1.len : Nat) : Int)) ∧ ∃ a23 : Addr, t6.1.a = some a23 ∧
          ∃ v24 : Int, hcell h21 (adr a23 (t20.2.toNat * 1)) = some (.int .u32 v24) ∧
          LoopP (fun I25 (t26 : Bool × Int) h27 => -- lowest(16), (47)
           CondP (decide (t26.2 < (t6.1.len : Int))) (
            Join (fun (t38 : Bool) h39 => -- lowest(16)
             I25 (t38, IntKind.wrap .i64 (t26.2 + 1)) h39) (fun J28 =>
             (((0 : Int) ≤ t26.2 ∧ t26.2 < ((t6.1.len : Nat) : Int)) ∧ ∃ a29 : Addr, t6.1.a = some a29 ∧
              ∃ v30 : Int, hcell h27 (adr a29 (t26.2.toNat * 1)) = some (.int .u32 v30) ∧
              Join (fun (t36 : Bool) h37 => -- (60)
               CondP t36 (
                J28 false h37) (
                J28 t26.1 h37)) (fun J31 =>
               CondP (v30 != v24) (
                HC PG f_r20_Above [.pointer x0, .int .u32 v30] [.c .slice] (fun (e32 : SliceV) h33 =>
                 HC PG f_r20_Has [.slice e32.a e32.len e32.cap, .int .u32 v24] [.c .bool] (fun (e34 : Bool) h35 =>
                  J31 e34 h35) h33) h27) (
                J31 false h27))))) (
            Join (fun (t41 : Bool) h42 => -- (67)
             CondP t41 (
              J22 v24 h42) (
              J22 t20.1 h42)) (fun J40 =>
             CondP t26.1 (
              J40 (decide (v24 > t20.1)) h27) (
              J40 false h27)))) (true, 0) h21))) (
        K (t20.1, decide (t20.1 > (0 : Int))) h21)) (0, 0) h7)) (⟨none, 0, 0⟩, 0) h4) h2) h0
def A_r20_Meet : Ann := .node (.reg [0, 1, 2] (.nil)) (.node (.reg [0, 8, 9] (.nil)) (.node (.reg [0, 8, 9, 10] (.nil)) (.node (.node (.reg [0, 9, 10, 25, 26, 27] (.nil)) (.loop [0, 9, 25, 26] [(10, .c .slice), (27, .c (.int .i64))] (.node (.reg [0, 9, 10, 25, 26, 27, 28] (.nil)) (.node (.nil) (.join [0, 9, 25, 26, 27] [(10, .c .slice)] (.node (.reg [0, 9, 10, 12, 25, 26, 27] (.nil)) (.node (.reg [0, 9, 10, 12, 25, 26, 27, 33] (.nil)) (.node (.reg [0, 9, 10, 25, 26, 27] (.nil)) (.nil)))) (.reg [0, 9, 10, 25, 26, 27] (.nil))))))) (.node (.reg [0, 10, 13] (.nil)) (.node (.node (.reg [0, 10, 13, 39, 40, 41] (.nil)) (.loop [0, 10, 39, 40] [(13, .c (.int .u32)), (41, .c (.int .i64))] (.node (.reg [0, 10, 13, 39, 40, 41, 42] (.nil)) (.node (.nil) (.join [0, 10, 39, 40, 41] [(13, .c (.int .u32))] (.node (.reg [0, 10, 13, 15, 39, 40, 41] (.nil)) (.node (.reg [0, 10, 13, 15, 16, 39, 40, 41] (.nil)) (.node (.node (.reg [0, 10, 13, 15, 16, 39, 40, 41, 45, 46, 47] (.nil)) (.loop [0, 10, 13, 15, 39, 40, 41, 45, 46] [(16, .c .bool), (47, .c (.int .i64))] (.node (.reg [0, 10, 13, 15, 16, 39, 40, 41, 45, 46, 47, 48] (.nil)) (.node (.nil) (.join [0, 10, 13, 15, 39, 40, 41, 45, 46, 47] [(16, .c .bool)] (.node (.reg [0, 10, 13, 15, 16, 18, 39, 40, 41, 45, 46, 47] (.nil)) (.join [0, 10, 13, 15, 16, 39, 40, 41, 45, 46, 47] [(60, .c .bool)] (.reg [0, 10, 13, 15, 16, 39, 40, 41, 45, 46, 47, 60] (.nil)) (.node (.reg [0, 10, 13, 15, 16, 39, 40, 41, 45, 46, 47] (.nil)) (.nil)))) (.reg [0, 10, 13, 15, 16, 39, 40, 41, 45, 46, 47] (.nil))))))) (.join [0, 10, 13, 15, 39, 40, 41] [(67, .c .bool)] (.reg [0, 10, 13, 15, 39, 40, 41, 67] (.nil)) (.node (.reg [0, 10, 13, 39, 40, 41] (.nil)) (.nil)))))) (.reg [0, 10, 13, 39, 40, 41] (.nil))))))) (.node (.reg [6, 7] (.nil)) (.nil)))))))
theorem E_r20_Meet (x0 : Option Addr) (x1 : Int) (x2 : Int) (K : Tup [.c (.int .u32), .c .bool] → Heap → Prop) (h0 : Heap) : F_r20_Meet x0 x1 x2 K h0 = sBody PG Try.f19 (Try.f19.body.getD .skip) A_r20_Meet [.pointer x0, .int .u32 x1, .int .u32 x2] [.c (.int .u32), .c .bool] K h0 := by kernel_rfl
theorem H_r20_Meet (x0 : Option Addr) (x1 : Int) (x2 : Int) {K : Tup [.c (.int .u32), .c .bool] → Heap → Prop} {h0 : Heap} (h : F_r20_Meet x0 x1 x2 K h0) : HC PG f_r20_Meet [.pointer x0, .int .u32 x1, .int .u32 x2] [.c (.int .u32), .c .bool] K h0 := HC.intro Try.mixed Try.func19 rfl Try.call19 (Nat.le_of_ble_eq_true rfl) ((E_r20_Meet x0 x1 x2 K h0) ▸ h)
/-- quickset/quicksetref20.Has -/
def F_r20_Has (x0 : SliceV) (x1 : Int) (K : (Bool) → Heap → Prop) (h0 : Heap) : Prop :=
  LoopP (fun I1 (t2 : Int) h3 => -- (9)
   CondP (decide (t2 < (x0.len : Int))) (
    (((0 : Int) ≤ t2 ∧ t2 < ((x0.len : Nat) : Int)) ∧ ∃ a4 : Addr, x0.a = some a4 ∧
     ∃ v5 : Int, hcell h3 (adr a4 (t2.toNat * 1)) = some (.int .u32 v5) ∧
     CondP (v5 == x1) (
      K true h3) (
      I1 (IntKind.wrap .i64 (t2 + 1)) h3))) (
    K false h3)) 0 h0
def A_r20_Has : Ann := .node (.reg [0, 1] (.nil)) (.node (.node (.reg [1, 7, 8, 9] (.nil)) (.loop [1, 7, 8] [(9, .c (.int .i64))] (.node (.reg [1, 7, 8, 9, 10] (.nil)) (.node (.nil) (.node (.node (.reg [1, 6, 7, 8, 9] (.nil)) (.node (.reg [1, 7, 8, 9, 15] (.nil)) (.node (.node (.reg [4] (.nil)) (.nil)) (.nil)))) (.reg [1, 7, 8, 9] (.nil))))))) (.node (.reg [4] (.nil)) (.nil)))
theorem E_r20_Has (x0 : SliceV) (x1 : Int) (K : Tup [.c .bool] → Heap → Prop) (h0 : Heap) : F_r20_Has x0 x1 K h0 = sBody PG Try.f20 (Try.f20.body.getD .skip) A_r20_Has [.slice x0.a x0.len x0.cap, .int .u32 x1] [.c .bool] K h0 := by kernel_rfl
theorem H_r20_Has (x0 : SliceV) (x1 : Int) {K : Tup [.c .bool] → Heap → Prop} {h0 : Heap} (h : F_r20_Has x0 x1 K h0) : HC PG f_r20_Has [.slice x0.a x0.len x0.cap, .int .u32 x1] [.c .bool] K h0 := HC.intro Try.mixed Try.func20 rfl Try.call20 (Nat.le_of_ble_eq_true rfl) ((E_r20_Has x0 x1 K h0) ▸ h)
/-- quickset/quicksetlaw20.like -/
def F_l20_like (x0 : Option Addr) (x1 : Option Addr) (K : (Bool) → Heap → Prop) (h0 : Heap) : Prop :=
  ∃ a1 : Addr, x1 = some a1 ∧
  ∃ v2 : SliceV, hcell h0 (adr a1 0) = some (.slice v2.a v2.len v2.cap) ∧
  LoopP (fun I3 (t4 : SliceV × Int) h5 => -- ids(5), (13)
   CondP (decide (t4.2 < (v2.len : Int))) (
    (((0 : Int) ≤ t4.2 ∧ t4.2 < ((v2.len : Nat) : Int)) ∧ ∃ a6 : Addr, v2.a = some a6 ∧
     ∃ v7 : Int, hcell h5 (adr (adr a6 (t4.2.toNat * 2)) 0) = some (.int .u32 v7) ∧
     ∃ v8 : SliceV, hcell h5 (adr (adr a6 (t4.2.toNat * 2)) 1) = some (.slice v8.a v8.len v8.cap) ∧
     At (hnew h5 [.int .u32 0, .slice none 0 0] t_r20_Version) (fun h9 =>
      (WrS h9 (some (newA h5)) 0 [.int .u32 v7, .slice v8.a v8.len v8.cap] ∧
       At (hsetL h9 (newA h5) 0 [.int .u32 v7, .slice v8.a v8.len v8.cap]) (fun h10 =>
        Join (fun (t17 : SliceV) h18 => -- ids(5)
         Join (fun (t29 : Bool) h30 => -- (36)
          CondP t29 (
           K false h30) (
           I3 (t17, IntKind.wrap .i64 (t4.2 + 1)) h30)) (fun J19 =>
          ∃ v20 : Int, hcell h18 (adr (newA h5) 0) = some (.int .u32 v20) ∧
          HC PG f_graph_Graph_Has [.pointer x0, .int .u32 v20] [.c .bool] (fun (e21 : Bool) h22 =>
           CondP (!e21) (
            J19 true h22) (
            ∃ v23 : Int, hcell h22 (adr (newA h5) 0) = some (.int .u32 v23) ∧
            ∃ v24 : SliceV, hcell h22 (adr (newA h5) 1) = some (.slice v24.a v24.len v24.cap) ∧
            HC PG f_graph_Graph_Parents [.pointer x0, .int .u32 v23] [.c .slice] (fun (e25 : SliceV) h26 =>
             (hcell h26 (adr (newA h5) 1) = some (.slice v24.a v24.len v24.cap) ∧
              HC PG f_slices_Equal_A_u32_u32 [.slice e25.a e25.len e25.cap, .slice v24.a v24.len v24.cap] [.c .bool] (fun (e27 : Bool) h28 =>
               J19 (!e27) h28) h26)) h22)) h18)) (fun J11 =>
         ∃ v12 : Int, hcell h10 (adr (newA h5) 0) = some (.int .u32 v12) ∧
         At (hnew h10 [.int .u32 v12] t_u32) (fun h13 =>
          ∃ xs14, SRow h13 (some (newA h10)) (1 * 1) xs14 ∧
          AppP (some [.int .u32 0]) 1 4 t_u32 t4.1.a t4.1.len t4.1.cap 1 xs14 h13 (fun s15 h16 =>
           J11 s15 h16)))))))) (
    HC PG f_graph_Graph_IDs [.pointer x0] [.c .slice] (fun (e31 : SliceV) h32 =>
     HC PG f_slices_Equal_A_u32_u32 [.slice e31.a e31.len e31.cap, .slice t4.1.a t4.1.len t4.1.cap] [.c .bool] (fun (e33 : Bool) h34 =>
      CondP e33 (
       HC PG f_graph_Graph_Len [.pointer x0] [.c (.int .i64)] (fun (e35 : Int) h36 =>
        CondP (e35 == (t4.1.len : Int)) (
         ∃ a37 : Addr, x1 = some a37 ∧
         ∃ v38 : Int, hcell h36 (adr a37 1) = some (.int .u32 v38) ∧
         HC PG f_graph_Graph_Next [.pointer x0] [.c (.int .u32)] (fun (e39 : Int) h40 =>
          (hcell h40 (adr a37 1) = some (.int .u32 v38) ∧
           CondP (e39 == v38) (
            HC PG f_graph_Graph_Has [.pointer x0, .int .u32 0] [.c .bool] (fun (e41 : Bool) h42 =>
             (hcell h42 (adr a37 1) = some (.int .u32 v38) ∧
              CondP (!e41) (
               HC PG f_graph_Graph_Parents [.pointer x0, .int .u32 0] [.c .slice] (fun (e43 : SliceV) h44 =>
                (hcell h44 (adr a37 1) = some (.int .u32 v38) ∧
                 K ((e43.len : Int) == (0 : Int)) h44)) h42) (
               K false h42))) h40) (
            K false h40))) h36) (
         K false h36)) h34) (
       K false h34)) h32) h5)) (⟨none, 0, 0⟩, 0) h0
def A_l20_like : Ann := .node (.reg [0, 1] (.nil)) (.node (.reg [0, 1, 5] (.nil)) (.node (.node (.reg [0, 1, 5, 11, 12, 13] (.nil)) (.loop [0, 1, 11, 12] [(5, .c .slice), (13, .c (.int .i64))] (.node (.reg [0, 1, 5, 11, 12, 13, 14] (.nil)) (.node (.nil) (.node (.node (.reg [0, 1, 5, 7, 11, 12, 13] (.nil)) (.join [0, 1, 7, 11, 12, 13] [(5, .c .slice)] (.reg [0, 1, 5, 7, 11, 12, 13] (.nil)) (.join [0, 1, 5, 11, 12, 13] [(36, .c .bool)] (.reg [0, 1, 5, 11, 12, 13, 36] (.draw [.mk 0 32767 1 4194304, .mk 0 32767 128 8388608, .mk 2 32765 8388608 16777216, .mk 5 32762 20971520 33554432, .mk 8 32759 33554432 67108864, .mk 24 32751 67108864 134217728, .mk 32 32735 134217729 268435456, .mk 32 32735 134217856 536870912, .mk 160 32607 671088640 1073741824, .mk 352 32415 1476395008 2147483648, .mk 32 32735 134217856 4294967296, .mk 1056 31711 4429185024 8589934592, .mk 2592 30175 10871635968 17179869184, .mk 4128 28639 17314086912 34359738368, .mk 8224 24543 34493956096 68719476736] (.take 0 (.take 1 (.take 2 (.all (.last 3 (.take 4 (.take 5 (.split 27 (.take 6 (.take 7 (.take 8 (.take 9 (.take 10 (.take 11 (.take 12 (.take 13 (.take 14 (.done)))))))))) (.take 6 (.take 7 (.take 8 (.take 10 (.take 11 (.all (.last 9 (.all (.last 12 (.take 13 (.take 14 (.done)))))))))))))))))))))) (.node (.node (.reg [4] (.nil)) (.nil)) (.nil))))) (.reg [0, 1, 5, 11, 12, 13] (.nil))))))) (.node (.reg [4] (.draw [.mk 0 4294967295 1 274877906944, .mk 1 4294967294 274877906944 549755813888, .mk 0 4294967295 32 1099511627776, .mk 6 4294967289 1649267441664 2199023255552, .mk 8 4294967287 2199023255552 4398046511104, .mk 16 4294967279 4398046511105 8796093022208, .mk 48 4294967247 13194139533312 17592186044416, .mk 16 4294967279 4398046511136 35184372088832, .mk 144 4294967151 39582418599936 70368744177664, .mk 336 4294966959 92358976733184 140737488355328, .mk 528 4294966767 145135534866432 281474976710656, .mk 1088 4294966271 281474976710656 562949953421312, .mk 2048 4294965247 562949953421313 1125899906842624, .mk 6144 4294961151 1688849860263936 2251799813685248, .mk 2048 4294965247 562949953421314 4503599627370496, .mk 18432 4294948863 5066549580791808 9007199254740992, .mk 34816 4294932479 9570149208162304 18014398509481984, .mk 67584 4294899711 18577348462903296 36028797018963968, .mk 141312 4294825983 38843546786070528 72057594037927936, .mk 264192 4294703103 72620543991349248 144115188075855872, .mk 532480 4294443007 144115188075855872 288230376151711744, .mk 1048576 4293918719 288230376151711745 576460752303423488, .mk 3145728 4291821567 864691128455135232 1152921504606846976, .mk 5242880 4289724415 1441151880758558720 2305843009213693952, .mk 9437184 4285530111 2594073385365405696 4611686018427387904, .mk 20971520 4278190079 4611686018427387904 9223372036854775808, .mk 33554432 4261412863 9223372036854775809 18446744073709551616, .mk 100663296 4194303999 27670116110564327424 36893488147419103232, .mk 167772160 4127195135 46116860184273879040 73786976294838206464, .mk 301989888 3992977407 83010348331692982272 147573952589676412928, .mk 570425344 3724541951 156797324626531188736 295147905179352825856, .mk 2147483647 3221225471 295147905179352825856 16] (.take 0 (.take 2 (.all (.last 1 (.all (.last 3 (.take 4 (.split 42 (.take 5 (.take 7 (.take 8 (.all (.last 6 (.take 9 (.take 10 (.take 11 (.split 49 (.take 12 (.take 14 (.take 15 (.take 16 (.take 17 (.all (.last 13 (.take 18 (.take 19 (.take 20 (.split 58 (.take 21 (.all (.last 22 (.take 23 (.take 24 (.take 25 (.split 63 (.take 26 (.all (.last 27 (.take 28 (.take 29 (.take 30 (.take 31 (.done)))))))) (.take 26 (.take 27 (.take 28 (.take 29 (.take 30 (.take 31 (.done)))))))))))))) (.take 21 (.take 22 (.take 23 (.take 24 (.take 25 (.take 26 (.take 27 (.take 28 (.take 29 (.take 30 (.take 31 (.done))))))))))))))))))))))) (.take 12 (.take 13 (.take 14 (.take 15 (.take 16 (.take 17 (.take 18 (.take 19 (.take 20 (.take 21 (.take 22 (.take 23 (.take 24 (.take 25 (.take 26 (.take 27 (.take 28 (.take 29 (.take 30 (.take 31 (.done)))))))))))))))))))))))))))))) (.take 5 (.take 6 (.take 7 (.take 8 (.take 9 (.take 10 (.take 11 (.take 12 (.take 13 (.take 14 (.take 15 (.take 16 (.take 17 (.take 18 (.take 19 (.take 20 (.take 21 (.take 22 (.take 23 (.take 24 (.take 25 (.take 26 (.take 27 (.take 28 (.take 29 (.take 30 (.take 31 (.done)))))))))))))))))))))))))))))))))))))) (.nil))))
theorem E_l20_like (x0 : Option Addr) (x1 : Option Addr) (K : Tup [.c .bool] → Heap → Prop) (h0 : Heap) : F_l20_like x0 x1 K h0 = sBody PG Try.f21 (Try.f21.body.getD .skip) A_l20_like [.pointer x0, .pointer x1] [.c .bool] K h0 := by kernel_rfl
theorem H_l20_like (x0 : Option Addr) (x1 : Option Addr) {K : Tup [.c .bool] → Heap → Prop} {h0 : Heap} (h : F_l20_like x0 x1 K h0) : HC PG f_l20_like [.pointer x0, .pointer x1] [.c .bool] K h0 := HC.intro Try.mixed Try.func21 rfl Try.call21 (Nat.le_of_ble_eq_true rfl) ((E_l20_like x0 x1 K h0) ▸ h)
/-- (*quickset/graph.Graph).Put -/
def F_graph_Graph_Put (x0 : Option Addr) (x1 : Int) (x2 : SliceV) (K : (Int) → Heap → Prop) (h0 : Heap) : Prop :=
  At (hnew h0 [.int .u32 x1] t_u32) (fun h1 =>
   CondP x0.isNone (
    K 4 h1) (
    HC PG f_graph_Graph_may [.pointer x0, .slice x2.a x2.len x2.cap] [.c (.int .i64)] (fun (e2 : Int) h3 =>
     Join (fun (t9 : Bool) h10 => -- (28)
      CondP t9 (
       K 1 h10) (
       ∃ v11 : Int, hcell h10 (newA h0) = some (.int .u32 v11) ∧
       HC PG f_graph_Graph_Has [.pointer x0, .int .u32 v11] [.c .bool] (fun (e12 : Bool) h13 =>
        CondP e12 (
         K 7 h13) (
         HC PG f_graph_Graph_fits [.pointer x0, .slice x2.a x2.len x2.cap] [.c (.int .i64)] (fun (e14 : Int) h15 =>
          CondP (e14 != (0 : Int)) (
           K e14 h15) (
           ∃ a16 : Addr, x0 = some a16 ∧
           ∃ v17 : Option Nat, hcell h15 (adr a16 0) = some (.map v17) ∧
           ∃ v18 : Int, hcell h15 (newA h0) = some (.int .u32 v18) ∧
           HC PG f_slices_Clone_A_u32_u32 [.slice x2.a x2.len x2.cap] [.c .slice] (fun (e19 : SliceV) h20 =>
            (hcell h20 (newA h0) = some (.int .u32 v18) ∧
             (hcell h20 (adr a16 0) = some (.map v17) ∧
              ∃ r21 : Nat, v17 = some r21 ∧ IsMap (.int .u32) h20 r21 ∧
              At (mput h20 r21 (.int .u32 v18) (.slice e19.a e19.len e19.cap)) (fun h22 =>
               ∃ a23 : Addr, x0 = some a23 ∧
               ∃ v24 : Int, hcell h22 (adr a23 1) = some (.int .u32 v24) ∧
               ∃ v25 : Int, hcell h22 (newA h0) = some (.int .u32 v25) ∧
               Bd (if (IntKind.wrap .u32 (v25 + 1)) > v24 then (IntKind.wrap .u32 (v25 + 1)) else v24 : Int) (fun n26 =>
                ∃ a27 : Addr, x0 = some a27 ∧
                (Wr h22 (adr a27 1) ∧
                 At (hset h22 (adr a27 1) (.int .u32 n26)) (fun h28 =>
                  K 0 h28))))))) h15)) h13)) h10)) (fun J4 =>
      CondP (e2 != (0 : Int)) (
       J4 true h3) (
       ∃ v5 : Int, hcell h3 (newA h0) = some (.int .u32 v5) ∧
       CondP (v5 == (0 : Int)) (
        J4 true h3) (
        ∃ v6 : Int, hcell h3 (newA h0) = some (.int .u32 v6) ∧
        CondP (decide (v6 ≥ (2147483648 : Int))) (
         J4 true h3) (
         HC PG f_slices_ContainsFunc_A_u32_u32 [.slice x2.a x2.len x2.cap, .func (.func f_graph_Graph_Put_1) #[] #[.pointer (some (newA h0))]] [.c .bool] (fun (e7 : Bool) h8 =>
          J4 e7 h8) h3))))) h1))
def A_graph_Graph_Put : Ann := .node (.reg [0, 2, 4] (.nil)) (.node (.node (.reg [0, 2, 4, 10] (.nil)) (.node (.node (.reg [6] (.nil)) (.nil)) (.nil))) (.node (.node (.reg [0, 2, 4, 7] (.nil)) (.join [0, 2, 4] [(28, .c .bool)] (.reg [0, 2, 4, 28] (.nil)) (.node (.node (.reg [6] (.nil)) (.nil)) (.nil)))) (.node (.node (.reg [0, 2, 4, 31] (.nil)) (.node (.node (.reg [6] (.nil)) (.nil)) (.nil))) (.node (.node (.reg [0, 2, 4, 8] (.nil)) (.node (.reg [0, 2, 4, 8, 36] (.nil)) (.node (.node (.reg [6] (.nil)) (.nil)) (.nil)))) (.node (.reg [0, 4] (.draw [.mk 0 255 1 274877906944, .mk 1 254 274877906944 549755813888, .mk 2 253 549755813888 1099511627776, .mk 4 251 1099511627776 2199023255552, .mk 0 255 16 4398046511104, .mk 0 255 4 8796093022208, .mk 32 223 8796093022208 17592186044416, .mk 127 167 24189255811072 0] (.take 0 (.take 1 (.take 2 (.take 3 (.take 4 (.take 5 (.all (.last 6 (.all (.last 7 (.done))))))))))))) (.node (.reg [] (.draw [.mk 0 2047 1 35184372088832, .mk 0 2047 1 70368744177664, .mk 2 2045 70368744177664 140737488355328, .mk 4 2043 140737488355328 281474976710656, .mk 8 2039 281474976710656 562949953421312, .mk 0 2047 16 1125899906842624, .mk 32 2015 1125899906842624 2251799813685248, .mk 80 1967 2814749767106560 4503599627370496, .mk 255 2046 35184372088832 9007199254740992, .mk 511 1791 9007199254740992 18014398509481984, .mk 767 1407 22517998136852480 0] (.take 0 (.take 1 (.take 2 (.take 3 (.take 4 (.take 5 (.take 6 (.take 7 (.take 8 (.take 9 (.all (.last 10 (.done))))))))))))))) (.node (.reg [6] (.nil)) (.nil))))))))
theorem E_graph_Graph_Put (x0 : Option Addr) (x1 : Int) (x2 : SliceV) (K : Tup [.c (.int .i64)] → Heap → Prop) (h0 : Heap) : F_graph_Graph_Put x0 x1 x2 K h0 = sBody PG Try.f22 (Try.f22.body.getD .skip) A_graph_Graph_Put [.pointer x0, .int .u32 x1, .slice x2.a x2.len x2.cap] [.c (.int .i64)] K h0 := by kernel_rfl
theorem H_graph_Graph_Put (x0 : Option Addr) (x1 : Int) (x2 : SliceV) {K : Tup [.c (.int .i64)] → Heap → Prop} {h0 : Heap} (h : F_graph_Graph_Put x0 x1 x2 K h0) : HC PG f_graph_Graph_Put [.pointer x0, .int .u32 x1, .slice x2.a x2.len x2.cap] [.c (.int .i64)] K h0 := HC.intro Try.mixed Try.func22 rfl Try.call22 (Nat.le_of_ble_eq_true rfl) ((E_graph_Graph_Put x0 x1 x2 K h0) ▸ h)
/-- (*quickset/graph.Graph).SetNext -/
def F_graph_Graph_SetNext (x0 : Option Addr) (x1 : Int) (K : (Bool) → Heap → Prop) (h0 : Heap) : Prop :=
  Join (fun (t4 : Bool) h5 => -- (18)
   CondP t4 (
    K false h5) (
    ∃ a6 : Addr, x0 = some a6 ∧
    (Wr h5 (adr a6 1) ∧
     At (hset h5 (adr a6 1) (.int .u32 x1)) (fun h7 =>
      K true h7)))) (fun J1 =>
   CondP x0.isNone (
    J1 true h0) (
    ∃ a2 : Addr, x0 = some a2 ∧
    ∃ v3 : Int, hcell h0 (adr a2 1) = some (.int .u32 v3) ∧
    CondP (decide (x1 < v3)) (
     J1 true h0) (
     J1 (decide (x1 > (2147483648 : Int))) h0)))
def A_graph_Graph_SetNext : Ann := .node (.reg [0, 1] (.nil)) (.node (.join [0, 1] [(18, .c .bool)] (.reg [0, 1, 18] (.nil)) (.node (.node (.reg [4] (.nil)) (.nil)) (.nil))) (.node (.reg [] (.nil)) (.node (.reg [4] (.nil)) (.nil))))
theorem E_graph_Graph_SetNext (x0 : Option Addr) (x1 : Int) (K : Tup [.c .bool] → Heap → Prop) (h0 : Heap) : F_graph_Graph_SetNext x0 x1 K h0 = sBody PG Try.f23 (Try.f23.body.getD .skip) A_graph_Graph_SetNext [.pointer x0, .int .u32 x1] [.c .bool] K h0 := by kernel_rfl
theorem H_graph_Graph_SetNext (x0 : Option Addr) (x1 : Int) {K : Tup [.c .bool] → Heap → Prop} {h0 : Heap} (h : F_graph_Graph_SetNext x0 x1 K h0) : HC PG f_graph_Graph_SetNext [.pointer x0, .int .u32 x1] [.c .bool] K h0 := HC.intro Try.mixed Try.func23 rfl Try.call23 (Nat.le_of_ble_eq_true rfl) ((E_graph_Graph_SetNext x0 x1 K h0) ▸ h)
/-- (*quickset/graph.Graph).Drop -/
def F_graph_Graph_Drop (x0 : Option Addr) (x1 : SliceV) (K : (SliceV) → Heap → Prop) (h0 : Heap) : Prop :=
  CondP x0.isNone (
   K ⟨none, 0, 0⟩ h0) (
   HC PG f_slices_Clone_A_u32_u32 [.slice x1.a x1.len x1.cap] [.c .slice] (fun (e1 : SliceV) h2 =>
    HC PG f_graph_Graph_reach [.pointer x0, .slice e1.a e1.len e1.cap] [.c .map] (fun (e3 : Option Nat) h4 =>
     HC PG f_graph_Graph_IDs [.pointer x0] [.c .slice] (fun (e5 : SliceV) h6 =>
      LoopP (fun I7 (t8 : SliceV × Int) h9 => -- out(6), (18)
       CondP (decide (t8.2 < (e5.len : Int))) (
        Join (fun (t26 : SliceV) h27 => -- out(6)
         I7 (t26, IntKind.wrap .i64 (t8.2 + 1)) h27) (fun J10 =>
         (((0 : Int) ≤ t8.2 ∧ t8.2 < ((e5.len : Nat) : Int)) ∧ ∃ a11 : Addr, e5.a = some a11 ∧
          ∃ v12 : Int, hcell h9 (adr a11 (t8.2.toNat * 1)) = some (.int .u32 v12) ∧
          ∃ (y13 : Int) (b14 : Bool), MapGet (.int .u32) (.int .i64 0) h9 e3 (.int .u32 v12) (.int .i64 y13) b14 ∧
          CondP (y13 == (0 : Int)) (
           Join (fun (t20 : Unit) h21 => -- 
            At (hnew h21 [.int .u32 v12] t_u32) (fun h22 =>
             ∃ xs23, SRow h22 (some (newA h21)) (1 * 1) xs23 ∧
             AppP (some [.int .u32 0]) 1 4 t_u32 t8.1.a t8.1.len t8.1.cap 1 xs23 h22 (fun s24 h25 =>
              J10 s24 h25))) (fun J15 =>
            ∃ a16 : Addr, x0 = some a16 ∧
            ∃ v17 : Option Nat, hcell h9 (adr a16 0) = some (.map v17) ∧
            DelP (.int .u32) v17 (.int .u32 v12) h9 (fun h19 =>
             J15 () h19))) (
           J10 t8.1 h9)))) (
        K t8.1 h9)) (⟨none, 0, 0⟩, 0) h6) h4) h2) h0)
def A_graph_Graph_Drop : Ann := .node (.reg [0, 1] (.nil)) (.node (.node (.reg [0, 1, 10] (.nil)) (.node (.node (.reg [4] (.nil)) (.nil)) (.nil))) (.node (.reg [0, 5] (.nil)) (.node (.reg [0, 5, 6] (.nil)) (.node (.node (.reg [0, 5, 6, 16, 17, 18] (.nil)) (.loop [0, 5, 16, 17] [(6, .c .slice), (18, .c (.int .i64))] (.node (.reg [0, 5, 6, 16, 17, 18, 19] (.nil)) (.node (.nil) (.join [0, 5, 16, 17, 18] [(6, .c .slice)] (.node (.reg [0, 5, 6, 8, 16, 17, 18] (.nil)) (.node (.reg [0, 5, 6, 8, 16, 17, 18, 25] (.nil)) (.node (.join [0, 5, 6, 8, 16, 17, 18] [] (.reg [0, 5, 6, 8, 16, 17, 18] (.nil)) (.reg [0, 5, 6, 16, 17, 18] (.nil))) (.nil)))) (.reg [0, 5, 6, 16, 17, 18] (.nil))))))) (.node (.reg [4] (.nil)) (.nil))))))
theorem E_graph_Graph_Drop (x0 : Option Addr) (x1 : SliceV) (K : Tup [.c .slice] → Heap → Prop) (h0 : Heap) : F_graph_Graph_Drop x0 x1 K h0 = sBody PG Try.f24 (Try.f24.body.getD .skip) A_graph_Graph_Drop [.pointer x0, .slice x1.a x1.len x1.cap] [.c .slice] K h0 := by kernel_rfl
theorem H_graph_Graph_Drop (x0 : Option Addr) (x1 : SliceV) {K : Tup [.c .slice] → Heap → Prop} {h0 : Heap} (h : F_graph_Graph_Drop x0 x1 K h0) : HC PG f_graph_Graph_Drop [.pointer x0, .slice x1.a x1.len x1.cap] [.c .slice] K h0 := HC.intro Try.mixed Try.func24 rfl Try.call24 (Nat.le_of_ble_eq_true rfl) ((E_graph_Graph_Drop x0 x1 K h0) ▸ h)
/-- (*quickset/graph.Graph).Parents -/
def F_graph_Graph_Parents (x0 : Option Addr) (x1 : Int) (K : (SliceV) → Heap → Prop) (h0 : Heap) : Prop :=
  CondP x0.isNone (
   K ⟨none, 0, 0⟩ h0) (
   ∃ a1 : Addr, x0 = some a1 ∧
   ∃ v2 : Option Nat, hcell h0 (adr a1 0) = some (.map v2) ∧
   ∃ (y3 : SliceV) (b4 : Bool), MapGet (.int .u32) (.slice none 0 0) h0 v2 (.int .u32 x1) (.slice y3.a y3.len y3.cap) b4 ∧
   HC PG f_slices_Clone_A_u32_u32 [.slice y3.a y3.len y3.cap] [.c .slice] (fun (e5 : SliceV) h6 =>
    K e5 h6) h0)
def A_graph_Graph_Parents : Ann := .node (.reg [0, 1] (.nil)) (.node (.node (.reg [0, 1, 6] (.nil)) (.node (.node (.reg [4] (.nil)) (.nil)) (.nil))) (.node (.reg [4] (.nil)) (.nil)))
theorem E_graph_Graph_Parents (x0 : Option Addr) (x1 : Int) (K : Tup [.c .slice] → Heap → Prop) (h0 : Heap) : F_graph_Graph_Parents x0 x1 K h0 = sBody PG Try.f25 (Try.f25.body.getD .skip) A_graph_Graph_Parents [.pointer x0, .int .u32 x1] [.c .slice] K h0 := by kernel_rfl
theorem H_graph_Graph_Parents (x0 : Option Addr) (x1 : Int) {K : Tup [.c .slice] → Heap → Prop} {h0 : Heap} (h : F_graph_Graph_Parents x0 x1 K h0) : HC PG f_graph_Graph_Parents [.pointer x0, .int .u32 x1] [.c .slice] K h0 := HC.intro Try.mixed Try.func25 rfl Try.call25 (Nat.le_of_ble_eq_true rfl) ((E_graph_Graph_Parents x0 x1 K h0) ▸ h)
/-- (*quickset/graph.Graph).Len -/
def F_graph_Graph_Len (x0 : Option Addr) (K : (Int) → Heap → Prop) (h0 : Heap) : Prop :=
  CondP x0.isNone (
   K 0 h0) (
   ∃ a1 : Addr, x0 = some a1 ∧
   ∃ v2 : Option Nat, hcell h0 (adr a1 0) = some (.map v2) ∧
   ∃ n3 : Nat, MapLen h0 v2 n3 ∧
   K (n3 : Int) h0)
def A_graph_Graph_Len : Ann := .node (.reg [0] (.nil)) (.node (.node (.reg [0, 4] (.nil)) (.node (.node (.reg [2] (.nil)) (.nil)) (.nil))) (.node (.reg [2] (.nil)) (.nil)))
theorem E_graph_Graph_Len (x0 : Option Addr) (K : Tup [.c (.int .i64)] → Heap → Prop) (h0 : Heap) : F_graph_Graph_Len x0 K h0 = sBody PG Try.f26 (Try.f26.body.getD .skip) A_graph_Graph_Len [.pointer x0] [.c (.int .i64)] K h0 := by kernel_rfl
theorem H_graph_Graph_Len (x0 : Option Addr) {K : Tup [.c (.int .i64)] → Heap → Prop} {h0 : Heap} (h : F_graph_Graph_Len x0 K h0) : HC PG f_graph_Graph_Len [.pointer x0] [.c (.int .i64)] K h0 := HC.intro Try.mixed Try.func26 rfl Try.call26 (Nat.le_of_ble_eq_true rfl) ((E_graph_Graph_Len x0 K h0) ▸ h)
/-- (*quickset/graph.Graph).Next -/
def F_graph_Graph_Next (x0 : Option Addr) (K : (Int) → Heap → Prop) (h0 : Heap) : Prop :=
  CondP x0.isNone (
   K 0 h0) (
   ∃ a1 : Addr, x0 = some a1 ∧
   ∃ v2 : Int, hcell h0 (adr a1 1) = some (.int .u32 v2) ∧
   K v2 h0)
def A_graph_Graph_Next : Ann := .node (.reg [0] (.nil)) (.node (.node (.reg [0, 4] (.nil)) (.node (.node (.reg [2] (.nil)) (.nil)) (.nil))) (.node (.reg [2] (.nil)) (.nil)))
theorem E_graph_Graph_Next (x0 : Option Addr) (K : Tup [.c (.int .u32)] → Heap → Prop) (h0 : Heap) : F_graph_Graph_Next x0 K h0 = sBody PG Try.f27 (Try.f27.body.getD .skip) A_graph_Graph_Next [.pointer x0] [.c (.int .u32)] K h0 := by kernel_rfl
theorem H_graph_Graph_Next (x0 : Option Addr) {K : Tup [.c (.int .u32)] → Heap → Prop} {h0 : Heap} (h : F_graph_Graph_Next x0 K h0) : HC PG f_graph_Graph_Next [.pointer x0] [.c (.int .u32)] K h0 := HC.intro Try.mixed Try.func27 rfl Try.call27 (Nat.le_of_ble_eq_true rfl) ((E_graph_Graph_Next x0 K h0) ▸ h)
/-- (*quickset/graph.Graph).Has -/
def F_graph_Graph_Has (x0 : Option Addr) (x1 : Int) (K : (Bool) → Heap → Prop) (h0 : Heap) : Prop :=
  CondP x0.isNone (
   K false h0) (
   ∃ a1 : Addr, x0 = some a1 ∧
   ∃ v2 : Option Nat, hcell h0 (adr a1 0) = some (.map v2) ∧
   ∃ (y3 : SliceV) (b4 : Bool), MapGet (.int .u32) (.slice none 0 0) h0 v2 (.int .u32 x1) (.slice y3.a y3.len y3.cap) b4 ∧
   K b4 h0)
def A_graph_Graph_Has : Ann := .node (.reg [0, 1] (.nil)) (.node (.node (.reg [0, 1, 8] (.nil)) (.node (.node (.reg [4] (.nil)) (.nil)) (.nil))) (.node (.reg [6] (.nil)) (.node (.reg [4] (.nil)) (.nil))))
theorem E_graph_Graph_Has (x0 : Option Addr) (x1 : Int) (K : Tup [.c .bool] → Heap → Prop) (h0 : Heap) : F_graph_Graph_Has x0 x1 K h0 = sBody PG Try.f28 (Try.f28.body.getD .skip) A_graph_Graph_Has [.pointer x0, .int .u32 x1] [.c .bool] K h0 := by kernel_rfl
theorem H_graph_Graph_Has (x0 : Option Addr) (x1 : Int) {K : Tup [.c .bool] → Heap → Prop} {h0 : Heap} (h : F_graph_Graph_Has x0 x1 K h0) : HC PG f_graph_Graph_Has [.pointer x0, .int .u32 x1] [.c .bool] K h0 := HC.intro Try.mixed Try.func28 rfl Try.call28 (Nat.le_of_ble_eq_true rfl) ((E_graph_Graph_Has x0 x1 K h0) ▸ h)
/-- (*quickset/graph.Graph).Copy -/
def F_graph_Graph_Copy (x0 : Option Addr) (K : (Option Addr) → Heap → Prop) (h0 : Heap) : Prop :=
  CondP x0.isNone (
   K none h0) (
   ∃ a1 : Addr, x0 = some a1 ∧
   ∃ v2 : Option Nat, hcell h0 (adr a1 0) = some (.map v2) ∧
   ∃ a3 : Addr, x0 = some a3 ∧
   ∃ v4 : Int, hcell h0 (adr a3 1) = some (.int .u32 v4) ∧
   HC PG f_maps_Clone_M_u32_A_u32_u32_A_u32 [.map v2] [.c .map] (fun (e5 : Option Nat) h6 =>
    (hcell h6 (adr a3 1) = some (.int .u32 v4) ∧
     At (hnew h6 [.map e5, .int .u32 v4] t_graph_Graph) (fun h7 =>
      K (some (newA h6)) h7))) h0)
def A_graph_Graph_Copy : Ann := .node (.reg [0] (.nil)) (.node (.node (.reg [0, 4] (.nil)) (.node (.node (.reg [2] (.nil)) (.nil)) (.nil))) (.node (.reg [2] (.draw [.mk 0 4095 1 32, .mk 1 4094 32 64, .mk 2 4093 64 128, .mk 4 4091 128 256, .mk 8 4087 256 512, .mk 0 4095 1 1024, .mk 32 4063 1024 2048, .mk 64 4031 2048 4096, .mk 128 3967 4096 8192, .mk 272 3823 8704 16384, .mk 512 3583 16384 32768, .mk 2047 3071 32768 4] (.take 0 (.take 1 (.take 2 (.take 3 (.take 5 (.take 6 (.take 7 (.take 8 (.all (.last 4 (.all (.last 9 (.all (.last 10 (.take 11 (.done)))))))))))))))))) (.nil)))
theorem E_graph_Graph_Copy (x0 : Option Addr) (K : Tup [.c .ptr] → Heap → Prop) (h0 : Heap) : F_graph_Graph_Copy x0 K h0 = sBody PG Try.f29 (Try.f29.body.getD .skip) A_graph_Graph_Copy [.pointer x0] [.c .ptr] K h0 := by kernel_rfl
theorem H_graph_Graph_Copy (x0 : Option Addr) {K : Tup [.c .ptr] → Heap → Prop} {h0 : Heap} (h : F_graph_Graph_Copy x0 K h0) : HC PG f_graph_Graph_Copy [.pointer x0] [.c .ptr] K h0 := HC.intro Try.mixed Try.func29 rfl Try.call29 (Nat.le_of_ble_eq_true rfl) ((E_graph_Graph_Copy x0 K h0) ▸ h)
/-- slices.Clone[[]uint32,uint32] -/
def F_slices_Clone_A_u32_u32 (x0 : SliceV) (K : (SliceV) → Heap → Prop) (h0 : Heap) : Prop :=
  CondP x0.a.isNone (
   K ⟨none, 0, 0⟩ h0) (
   At (hnew h0 [] t_u32) (fun h1 =>
    ∃ xs2, SRow h1 x0.a (x0.len * 1) xs2 ∧
    AppP (some [.int .u32 0]) 1 4 t_u32 (some (newA h0)) 0 0 x0.len xs2 h1 (fun s3 h4 =>
     K s3 h4)))
def A_slices_Clone_A_u32_u32 : Ann := .node (.reg [0] (.nil)) (.node (.node (.reg [0, 4] (.nil)) (.node (.node (.reg [2] (.nil)) (.nil)) (.nil))) (.node (.reg [2] (.nil)) (.nil)))
theorem E_slices_Clone_A_u32_u32 (x0 : SliceV) (K : Tup [.c .slice] → Heap → Prop) (h0 : Heap) : F_slices_Clone_A_u32_u32 x0 K h0 = sBody PG Try.f30 (Try.f30.body.getD .skip) A_slices_Clone_A_u32_u32 [.slice x0.a x0.len x0.cap] [.c .slice] K h0 := by kernel_rfl
theorem H_slices_Clone_A_u32_u32 (x0 : SliceV) {K : Tup [.c .slice] → Heap → Prop} {h0 : Heap} (h : F_slices_Clone_A_u32_u32 x0 K h0) : HC PG f_slices_Clone_A_u32_u32 [.slice x0.a x0.len x0.cap] [.c .slice] K h0 := HC.intro Try.mixed Try.func30 rfl Try.call30 (Nat.le_of_ble_eq_true rfl) ((E_slices_Clone_A_u32_u32 x0 K h0) ▸ h)
/-- slices.Contains[[]uint32,uint32] -/
def F_slices_Contains_A_u32_u32 (x0 : SliceV) (x1 : Int) (K : (Bool) → Heap → Prop) (h0 : Heap) : Prop :=
  HC PG f_slices_Index_A_u32_u32 [.slice x0.a x0.len x0.cap, .int .u32 x1] [.c (.int .i64)] (fun (e1 : Int) h2 =>
   K (decide (e1 ≥ (0 : Int))) h2) h0
def A_slices_Contains_A_u32_u32 : Ann := .node (.reg [0, 1] (.nil)) (.node (.reg [4] (.nil)) (.nil))
theorem E_slices_Contains_A_u32_u32 (x0 : SliceV) (x1 : Int) (K : Tup [.c .bool] → Heap → Prop) (h0 : Heap) : F_slices_Contains_A_u32_u32 x0 x1 K h0 = sBody PG Try.f31 (Try.f31.body.getD .skip) A_slices_Contains_A_u32_u32 [.slice x0.a x0.len x0.cap, .int .u32 x1] [.c .bool] K h0 := by kernel_rfl
theorem H_slices_Contains_A_u32_u32 (x0 : SliceV) (x1 : Int) {K : Tup [.c .bool] → Heap → Prop} {h0 : Heap} (h : F_slices_Contains_A_u32_u32 x0 x1 K h0) : HC PG f_slices_Contains_A_u32_u32 [.slice x0.a x0.len x0.cap, .int .u32 x1] [.c .bool] K h0 := HC.intro Try.mixed Try.func31 rfl Try.call31 (Nat.le_of_ble_eq_true rfl) ((E_slices_Contains_A_u32_u32 x0 x1 K h0) ▸ h)
/-- slices.IsSorted[[]uint32,uint32] -/
def F_slices_IsSorted_A_u32_u32 (x0 : SliceV) (K : (Bool) → Heap → Prop) (h0 : Heap) : Prop :=
  LoopP (fun I1 (t2 : Int) h3 => -- i(3)
   CondP (decide (t2 > (0 : Int))) (
    (((0 : Int) ≤ t2 ∧ t2 < ((x0.len : Nat) : Int)) ∧ ∃ a4 : Addr, x0.a = some a4 ∧
     ∃ v5 : Int, hcell h3 (adr a4 (t2.toNat * 1)) = some (.int .u32 v5) ∧
     (((0 : Int) ≤ (IntKind.wrap .i64 (t2 - 1)) ∧ (IntKind.wrap .i64 (t2 - 1)) < ((x0.len : Nat) : Int)) ∧ ∃ a6 : Addr, x0.a = some a6 ∧
      ∃ v7 : Int, hcell h3 (adr a6 ((IntKind.wrap .i64 (t2 - 1)).toNat * 1)) = some (.int .u32 v7) ∧
      HC PG f_cmp_Less_u32 [.int .u32 v5, .int .u32 v7] [.c .bool] (fun (e8 : Bool) h9 =>
       CondP e8 (
        K false h9) (
        I1 (IntKind.wrap .i64 (t2 - 1)) h9)) h3))) (
    K true h3)) (IntKind.wrap .i64 ((x0.len : Int) - 1)) h0
def A_slices_IsSorted_A_u32_u32 : Ann := .node (.reg [0] (.nil)) (.node (.node (.reg [0, 3] (.nil)) (.loop [0] [(3, .c (.int .i64))] (.node (.node (.reg [0, 3, 8] (.nil)) (.nil)) (.node (.node (.reg [0, 3, 20] (.draw [.mk 0 1023 1 2048, .mk 0 1023 8 4096, .mk 3 1020 6144 8192, .mk 4 1019 8192 16384, .mk 0 1023 1 32768, .mk 0 1023 8 65536, .mk 32 991 65536 131072, .mk 80 943 163840 262144, .mk 128 895 262144 524288, .mk 264 759 540672 1048576] (.take 0 (.take 1 (.take 2 (.take 3 (.take 4 (.take 5 (.take 6 (.take 7 (.take 8 (.all (.last 9 (.done)))))))))))))) (.node (.node (.reg [2] (.nil)) (.nil)) (.nil))) (.reg [0, 3] (.nil)))))) (.node (.reg [2] (.nil)) (.nil)))
theorem E_slices_IsSorted_A_u32_u32 (x0 : SliceV) (K : Tup [.c .bool] → Heap → Prop) (h0 : Heap) : F_slices_IsSorted_A_u32_u32 x0 K h0 = sBody PG Try.f32 (Try.f32.body.getD .skip) A_slices_IsSorted_A_u32_u32 [.slice x0.a x0.len x0.cap] [.c .bool] K h0 := by kernel_rfl
theorem H_slices_IsSorted_A_u32_u32 (x0 : SliceV) {K : Tup [.c .bool] → Heap → Prop} {h0 : Heap} (h : F_slices_IsSorted_A_u32_u32 x0 K h0) : HC PG f_slices_IsSorted_A_u32_u32 [.slice x0.a x0.len x0.cap] [.c .bool] K h0 := HC.intro Try.mixed Try.func32 rfl Try.call32 (Nat.le_of_ble_eq_true rfl) ((E_slices_IsSorted_A_u32_u32 x0 K h0) ▸ h)
/-- (*quickset/graph.Graph).may -/
def F_graph_Graph_may (x0 : Option Addr) (x1 : SliceV) (K : (Int) → Heap → Prop) (h0 : Heap) : Prop :=
  Join (fun (t6 : Bool) h7 => -- (21)
   CondP t6 (
    K 1 h7) (
    K 0 h7)) (fun J1 =>
   CondP (decide ((x1.len : Int) > (2 : Int))) (
    J1 true h0) (
    CondP ((x1.len : Int) == (2 : Int)) (
     (((0 : Int) ≤ (0 : Int) ∧ (0 : Int) < ((x1.len : Nat) : Int)) ∧ ∃ a2 : Addr, x1.a = some a2 ∧
      ∃ v3 : Int, hcell h0 (adr a2 ((0 : Int).toNat * 1)) = some (.int .u32 v3) ∧
      (((0 : Int) ≤ (1 : Int) ∧ (1 : Int) < ((x1.len : Nat) : Int)) ∧ ∃ a4 : Addr, x1.a = some a4 ∧
       ∃ v5 : Int, hcell h0 (adr a4 ((1 : Int).toNat * 1)) = some (.int .u32 v5) ∧
       J1 (v3 == v5) h0))) (
     J1 false h0)))
def A_graph_Graph_may : Ann := .node (.reg [1] (.nil)) (.node (.join [] [(21, .c .bool)] (.reg [21] (.draw [.mk 0 131071 2 32, .mk 1 131070 32 64, .mk 2 131069 64 128, .mk 4 131067 128 256, .mk 8 131063 258 512, .mk 24 131047 768 1024, .mk 40 131031 1280 2048, .mk 72 130999 2304 4096, .mk 128 130943 4098 8192, .mk 384 130687 12288 16384, .mk 640 130431 20480 32768, .mk 128 130943 4098 65536, .mk 2176 128895 69632 131072, .mk 4224 126847 135168 262144, .mk 9344 121727 299008 524288, .mk 16520 114551 528640 1048576, .mk 32776 98295 1048832 2097152] (.take 0 (.take 1 (.take 2 (.take 3 (.split 8 (.take 4 (.take 5 (.take 6 (.take 7 (.take 8 (.take 9 (.take 10 (.take 11 (.take 12 (.take 13 (.take 14 (.take 15 (.take 16 (.done)))))))))))))) (.take 4 (.take 5 (.take 6 (.take 7 (.split 12 (.take 8 (.take 9 (.take 10 (.take 11 (.take 12 (.take 13 (.take 14 (.take 15 (.take 16 (.done)))))))))) (.take 8 (.take 9 (.take 10 (.take 11 (.take 12 (.take 13 (.take 14 (.take 15 (.take 16 (.done)))))))))))))))))))))) (.node (.node (.reg [4] (.nil)) (.nil)) (.nil))) (.node (.reg [4] (.nil)) (.nil)))
theorem E_graph_Graph_may (x0 : Option Addr) (x1 : SliceV) (K : Tup [.c (.int .i64)] → Heap → Prop) (h0 : Heap) : F_graph_Graph_may x0 x1 K h0 = sBody PG Try.f33 (Try.f33.body.getD .skip) A_graph_Graph_may [.pointer x0, .slice x1.a x1.len x1.cap] [.c (.int .i64)] K h0 := by kernel_rfl
theorem H_graph_Graph_may (x0 : Option Addr) (x1 : SliceV) {K : Tup [.c (.int .i64)] → Heap → Prop} {h0 : Heap} (h : F_graph_Graph_may x0 x1 K h0) : HC PG f_graph_Graph_may [.pointer x0, .slice x1.a x1.len x1.cap] [.c (.int .i64)] K h0 := HC.intro Try.mixed Try.func33 rfl Try.call33 (Nat.le_of_ble_eq_true rfl) ((E_graph_Graph_may x0 x1 K h0) ▸ h)
/-- (*quickset/graph.Graph).fits -/
def F_graph_Graph_fits (x0 : Option Addr) (x1 : SliceV) (K : (Int) → Heap → Prop) (h0 : Heap) : Prop :=
  At (hnew h0 [.pointer x0] t_P_graph_Graph) (fun h1 =>
   HC PG f_slices_ContainsFunc_A_u32_u32 [.slice x1.a x1.len x1.cap, .func (.func f_graph_Graph_fits_1) #[] #[.pointer (some (newA h0))]] [.c .bool] (fun (e2 : Bool) h3 =>
    CondP e2 (
     K 4 h3) (
     ∃ v4 : Option Addr, hcell h3 (newA h0) = some (.pointer v4) ∧
     ∃ a5 : Addr, v4 = some a5 ∧
     ∃ v6 : Option Nat, hcell h3 (adr a5 0) = some (.map v6) ∧
     ∃ n7 : Nat, MapLen h3 v6 n7 ∧
     CondP (decide ((n7 : Int) ≥ (1024 : Int))) (
      K 6 h3) (
      K 0 h3))) h1)
def A_graph_Graph_fits : Ann := .node (.reg [1, 2] (.nil)) (.node (.node (.reg [2, 7] (.nil)) (.node (.node (.reg [4] (.nil)) (.nil)) (.nil))) (.node (.node (.reg [13] (.nil)) (.node (.node (.reg [4] (.nil)) (.nil)) (.nil))) (.node (.reg [4] (.nil)) (.nil))))
theorem E_graph_Graph_fits (x0 : Option Addr) (x1 : SliceV) (K : Tup [.c (.int .i64)] → Heap → Prop) (h0 : Heap) : F_graph_Graph_fits x0 x1 K h0 = sBody PG Try.f34 (Try.f34.body.getD .skip) A_graph_Graph_fits [.pointer x0, .slice x1.a x1.len x1.cap] [.c (.int .i64)] K h0 := by kernel_rfl
theorem H_graph_Graph_fits (x0 : Option Addr) (x1 : SliceV) {K : Tup [.c (.int .i64)] → Heap → Prop} {h0 : Heap} (h : F_graph_Graph_fits x0 x1 K h0) : HC PG f_graph_Graph_fits [.pointer x0, .slice x1.a x1.len x1.cap] [.c (.int .i64)] K h0 := HC.intro Try.mixed Try.func34 rfl Try.call34 (Nat.le_of_ble_eq_true rfl) ((E_graph_Graph_fits x0 x1 K h0) ▸ h)
/-- (*quickset/graph.Graph).reach -/
def F_graph_Graph_reach (x0 : Option Addr) (x1 : SliceV) (K : (Option Nat) → Heap → Prop) (h0 : Heap) : Prop :=
  At (Array.push h0 (.map #[] 0)) (fun h1 =>
   LoopP (fun I2 (t3 : SliceV) h4 => -- ids(1)
    CondP (decide ((t3.len : Int) > (0 : Int))) (
     (((0 : Int) ≤ (IntKind.wrap .i64 ((t3.len : Int) - 1)) ∧ (IntKind.wrap .i64 ((t3.len : Int) - 1)) < ((t3.len : Nat) : Int)) ∧ ∃ a5 : Addr, t3.a = some a5 ∧
      ∃ v6 : Int, hcell h4 (adr a5 ((IntKind.wrap .i64 ((t3.len : Int) - 1)).toNat * 1)) = some (.int .u32 v6) ∧
      (((0 : Int) ≤ (IntKind.wrap .i64 ((t3.len : Int) - 1)) ∧ (IntKind.wrap .i64 ((t3.len : Int) - 1)) ≤ ((t3.cap : Nat) : Int)) ∧
       Bd (subAddr t3.a 0 t3.cap 1 : Option Addr) (fun a7 => Bd (((IntKind.wrap .i64 ((t3.len : Int) - 1)).toNat) - 0 : Nat) (fun n8 => Bd (t3.cap - 0 : Nat) (fun n9 =>
          Join (fun (t15 : Bool) h16 => -- (31)
           CondP t15 (
            I2 ⟨a7, n8, n9⟩ h16) (
            ∃ (y17 : Int) (b18 : Bool), MapGet (.int .u32) (.int .i64 0) h16 (some (Array.size h0)) (.int .u32 v6) (.int .i64 y17) b18 ∧
            ∃ r19 : Nat, some (Array.size h0) = some r19 ∧ IsMap (.int .u32) h16 r19 ∧
            At (mput h16 r19 (.int .u32 v6) (.int .i64 (IntKind.wrap .i64 (y17 + 1)))) (fun h20 =>
             ∃ a21 : Addr, x0 = some a21 ∧
             ∃ v22 : Option Nat, hcell h20 (adr a21 0) = some (.map v22) ∧
             ∃ (y23 : SliceV) (b24 : Bool), MapGet (.int .u32) (.slice none 0 0) h20 v22 (.int .u32 v6) (.slice y23.a y23.len y23.cap) b24 ∧
             ∃ xs25, SRow h20 y23.a (y23.len * 1) xs25 ∧
             AppP (some [.int .u32 0]) 1 4 t_u32 a7 n8 n9 y23.len xs25 h20 (fun s26 h27 =>
              I2 s26 h27)))) (fun J10 =>
           HC PG f_graph_Graph_Has [.pointer x0, .int .u32 v6] [.c .bool] (fun (e11 : Bool) h12 =>
            CondP (!e11) (
             J10 true h12) (
             ∃ (y13 : Int) (b14 : Bool), MapGet (.int .u32) (.int .i64 0) h12 (some (Array.size h0)) (.int .u32 v6) (.int .i64 y13) b14 ∧
             J10 (decide (y13 > (0 : Int))) h12)) h4))))))) (
     K (some (Array.size h0)) h4)) x1 h1)
def A_graph_Graph_reach : Ann := .node (.reg [0, 1] (.nil)) (.node (.reg [0, 1, 5] (.nil)) (.node (.loop [0, 5] [(1, .c .slice)] (.node (.node (.reg [0, 1, 5, 10] (.nil)) (.nil)) (.node (.reg [0, 1, 5, 6] (.nil)) (.node (.reg [0, 1, 5, 6] (.nil)) (.node (.join [0, 1, 5, 6] [(31, .c .bool)] (.reg [0, 1, 5, 6, 31] (.nil)) (.nil)) (.node (.reg [0, 1, 5, 6] (.nil)) (.reg [0, 1, 5] (.nil)))))))) (.node (.reg [4] (.nil)) (.nil))))
theorem E_graph_Graph_reach (x0 : Option Addr) (x1 : SliceV) (K : Tup [.c .map] → Heap → Prop) (h0 : Heap) : F_graph_Graph_reach x0 x1 K h0 = sBody PG Try.f35 (Try.f35.body.getD .skip) A_graph_Graph_reach [.pointer x0, .slice x1.a x1.len x1.cap] [.c .map] K h0 := by kernel_rfl
theorem H_graph_Graph_reach (x0 : Option Addr) (x1 : SliceV) {K : Tup [.c .map] → Heap → Prop} {h0 : Heap} (h : F_graph_Graph_reach x0 x1 K h0) : HC PG f_graph_Graph_reach [.pointer x0, .slice x1.a x1.len x1.cap] [.c .map] K h0 := HC.intro Try.mixed Try.func35 rfl Try.call35 (Nat.le_of_ble_eq_true rfl) ((E_graph_Graph_reach x0 x1 K h0) ▸ h)
/-- maps.DeleteFunc[map[uint32]int,uint32,int] -/
def F_maps_DeleteFunc_M_u32_int_u32_int (x0 : Option Nat) (x1 : Value) (K : (Unit) → Heap → Prop) (h0 : Heap) : Prop :=
  ∃ c1 : Nat, (x0 = none ∧ c1 = 0 ∨ ∃ r es, x0 = some r ∧ h0[r]? = some (.map es c1)) ∧
  At (Array.push h0 (.mapIter x0 c1 #[] c1)) (fun h2 =>
   LoopP (fun I3 (t4 : Unit) h5 => -- 
    NextP (newA h0) h5 (
     K () h5) (fun e6 h7 =>
     (newA h0).off = 0 ∧ ∃ (e15 : MapEntry) (k16 : Int) (y17 : Int), IterAt h7 (newA h0).block e15 ∧ e15.key = .int .u32 k16 ∧ e15.val = .int .i64 y17 ∧
     HV PG x1 [.int .u32 k16, .int .i64 y17] [.c .bool] (fun (e18 : Bool) h19 =>
      CondP e18 (
       DelP (.int .u32) x0 (.int .u32 k16) h19 (fun h21 =>
        I3 () h21)) (
       I3 () h19)) h7)) () h2)
def A_maps_DeleteFunc_M_u32_int_u32_int : Ann := .node (.reg [0, 1, 7] (.nil)) (.loop [0, 1, 7] [] (.node (.reg [0, 1, 7, 9] (.nil)) (.node (.nil) (.node (.reg [0, 1, 4, 5, 7] (.kinds (.c (.int .u32)) (.c (.int .i64)))) (.node (.reg [0, 1, 4, 7, 16] (.nil)) (.node (.reg [0, 1, 7] (.nil)) (.nil)))))))
theorem E_maps_DeleteFunc_M_u32_int_u32_int (x0 : Option Nat) (x1 : Value) (K : Tup [] → Heap → Prop) (h0 : Heap) : F_maps_DeleteFunc_M_u32_int_u32_int x0 x1 K h0 = sBody PG Try.f36 (Try.f36.body.getD .skip) A_maps_DeleteFunc_M_u32_int_u32_int [.map x0, x1] [] K h0 := by kernel_rfl
theorem H_maps_DeleteFunc_M_u32_int_u32_int (x0 : Option Nat) (x1 : Value) {K : Tup [] → Heap → Prop} {h0 : Heap} (h : F_maps_DeleteFunc_M_u32_int_u32_int x0 x1 K h0) : HC PG f_maps_DeleteFunc_M_u32_int_u32_int [.map x0, x1] [] K h0 := HC.intro Try.mixed Try.func36 rfl Try.call36 (Nat.le_of_ble_eq_true rfl) ((E_maps_DeleteFunc_M_u32_int_u32_int x0 x1 K h0) ▸ h)
/-- (*quickset/graph.Graph).Meet$1 -/
def F_graph_Graph_Meet_1 (x0 : Int) (x1 : Int) (y0 : Addr) (K : (Bool) → Heap → Prop) (h0 : Heap) : Prop :=
  ∃ v1 : Option Nat, hcell h0 y0 = some (.map v1) ∧
  ∃ (y2 : Int) (b3 : Bool), MapGet (.int .u32) (.int .i64 0) h0 v1 (.int .u32 x0) (.int .i64 y2) b3 ∧
  K (y2 == (0 : Int)) h0
def A_graph_Graph_Meet_1 : Ann := .node (.reg [0, 2] (.nil)) (.node (.reg [5] (.nil)) (.nil))
theorem E_graph_Graph_Meet_1 (x0 : Int) (x1 : Int) (y0 : Addr) (K : Tup [.c .bool] → Heap → Prop) (h0 : Heap) : F_graph_Graph_Meet_1 x0 x1 y0 K h0 = sBody PG Try.f37 (Try.f37.body.getD .skip) A_graph_Graph_Meet_1 [.int .u32 x0, .int .i64 x1, .pointer (some y0)] [.c .bool] K h0 := by kernel_rfl
theorem H_graph_Graph_Meet_1 (x0 : Int) (x1 : Int) (y0 : Addr) {K : Tup [.c .bool] → Heap → Prop} {h0 : Heap} (h : F_graph_Graph_Meet_1 x0 x1 y0 K h0) : HC PG f_graph_Graph_Meet_1 [.int .u32 x0, .int .i64 x1, .pointer (some y0)] [.c .bool] K h0 := HC.intro Try.mixed Try.func37 rfl Try.call37 (Nat.le_of_ble_eq_true rfl) ((E_graph_Graph_Meet_1 x0 x1 y0 K h0) ▸ h)
/-- slices.Sorted[uint32] -/
def F_slices_Sorted_u32 (x0 : Value) (K : (SliceV) → Heap → Prop) (h0 : Heap) : Prop :=
  HC PG f_slices_Collect_u32 [x0] [.c .slice] (fun (e1 : SliceV) h2 =>
   HC PG f_slices_Sort_A_u32_u32 [.slice e1.a e1.len e1.cap] [] (fun (e3 : Unit) h4 =>
    K e1 h4) h2) h0
def A_slices_Sorted_u32 : Ann := .node (.reg [0] (.nil)) (.node (.reg [3] (.nil)) (.node (.reg [3] (.nil)) (.node (.reg [2] (.nil)) (.nil))))
theorem E_slices_Sorted_u32 (x0 : Value) (K : Tup [.c .slice] → Heap → Prop) (h0 : Heap) : F_slices_Sorted_u32 x0 K h0 = sBody PG Try.f38 (Try.f38.body.getD .skip) A_slices_Sorted_u32 [x0] [.c .slice] K h0 := by kernel_rfl
theorem H_slices_Sorted_u32 (x0 : Value) {K : Tup [.c .slice] → Heap → Prop} {h0 : Heap} (h : F_slices_Sorted_u32 x0 K h0) : HC PG f_slices_Sorted_u32 [x0] [.c .slice] K h0 := HC.intro Try.mixed Try.func38 rfl Try.call38 (Nat.le_of_ble_eq_true rfl) ((E_slices_Sorted_u32 x0 K h0) ▸ h)
/-- maps.Keys[map[uint32]int,uint32,int] -/
def F_maps_Keys_M_u32_int_u32_int (x0 : Option Nat) (K : (Value) → Heap → Prop) (h0 : Heap) : Prop :=
  At (hnew h0 [.map x0] t_M_u32_int) (fun h1 =>
   K (.func (.func f_maps_Keys_M_u32_int_u32_int_1) #[] #[.pointer (some (newA h0))]) h1)
def A_maps_Keys_M_u32_int_u32_int : Ann := .node (.reg [1] (.nil)) (.node (.reg [2] (.nil)) (.nil))
theorem E_maps_Keys_M_u32_int_u32_int (x0 : Option Nat) (K : Tup [.c .raw] → Heap → Prop) (h0 : Heap) : F_maps_Keys_M_u32_int_u32_int x0 K h0 = sBody PG Try.f39 (Try.f39.body.getD .skip) A_maps_Keys_M_u32_int_u32_int [.map x0] [.c .raw] K h0 := by kernel_rfl
theorem H_maps_Keys_M_u32_int_u32_int (x0 : Option Nat) {K : Tup [.c .raw] → Heap → Prop} {h0 : Heap} (h : F_maps_Keys_M_u32_int_u32_int x0 K h0) : HC PG f_maps_Keys_M_u32_int_u32_int [.map x0] [.c .raw] K h0 := HC.intro Try.mixed Try.func39 rfl Try.call39 (Nat.le_of_ble_eq_true rfl) ((E_maps_Keys_M_u32_int_u32_int x0 K h0) ▸ h)
/-- (quickset/quicksetlaw20.Act).parents -/
def F_l20_Act_parents (x0 : Int × Int × SliceV × Bool) (x1 : Option Addr) (K : (SliceV) → Heap → Prop) (h0 : Heap) : Prop :=
  At (hnew h0 [.int .u8 x0.1, .int .u32 x0.2.1, .slice x0.2.2.1.a x0.2.2.1.len x0.2.2.1.cap, .bool x0.2.2.2] t_l20_Act) (fun h1 =>
   ∃ v2 : SliceV, hcell h1 (adr (newA h0) 2) = some (.slice v2.a v2.len v2.cap) ∧
   ∃ v3 : SliceV, hcell h1 (adr (newA h0) 2) = some (.slice v3.a v3.len v3.cap) ∧
   (((0 : Int) ≤ (if 3 < (v3.len : Int) then 3 else (v3.len : Int)) ∧ (if 3 < (v3.len : Int) then 3 else (v3.len : Int)) ≤ ((v2.cap : Nat) : Int)) ∧
    Bd (subAddr v2.a 0 v2.cap 1 : Option Addr) (fun a4 => Bd (((if 3 < (v3.len : Int) then 3 else (v3.len : Int)).toNat) - 0 : Nat) (fun n5 => Bd (v2.cap - 0 : Nat) (fun n6 =>
       ∃ v7 : Bool, hcell h1 (adr (newA h0) 3) = some (.bool v7) ∧
       CondP (!v7) (
        HC PG f_slices_Clone_A_u32_u32 [.slice a4 n5 n6] [.c .slice] (fun (e8 : SliceV) h9 =>
         K e8 h9) h1) (
        LoopP (fun I10 (t11 : SliceV × Int) h12 => -- out(6), (23)
         CondP (decide (t11.2 < (n5 : Int))) (
          Join (fun (t28 : SliceV) h29 => -- out(6)
           I10 (t28, IntKind.wrap .i64 (t11.2 + 1)) h29) (fun J13 =>
           (((0 : Int) ≤ t11.2 ∧ t11.2 < ((n5 : Nat) : Int)) ∧ ∃ a14 : Addr, a4 = some a14 ∧
            ∃ v15 : Int, hcell h12 (adr a14 (t11.2.toNat * 1)) = some (.int .u32 v15) ∧
            ∃ a16 : Addr, x1 = some a16 ∧
            ∃ v17 : SliceV, hcell h12 (adr a16 0) = some (.slice v17.a v17.len v17.cap) ∧
            CondP (decide ((v17.len : Int) > (0 : Int))) (
             ∃ a18 : Addr, x1 = some a18 ∧
             ∃ v19 : SliceV, hcell h12 (adr a18 0) = some (.slice v19.a v19.len v19.cap) ∧
             ((64 : Int) ≠ 0 ∧
              ∃ a20 : Addr, x1 = some a20 ∧
              ∃ v21 : SliceV, hcell h12 (adr a20 0) = some (.slice v21.a v21.len v21.cap) ∧
              ((v21.len : Int) ≠ 0 ∧
               (((0 : Int) ≤ (Int.tmod (IntKind.wrap .i64 (Int.tmod v15 64)) (v21.len : Int)) ∧ (Int.tmod (IntKind.wrap .i64 (Int.tmod v15 64)) (v21.len : Int)) < ((v19.len : Nat) : Int)) ∧ ∃ a22 : Addr, v19.a = some a22 ∧
                ∃ v23 : Int, hcell h12 (adr (adr a22 ((Int.tmod (IntKind.wrap .i64 (Int.tmod v15 64)) (v21.len : Int)).toNat * 2)) 0) = some (.int .u32 v23) ∧
                At (hnew h12 [.int .u32 v23] t_u32) (fun h24 =>
                 (hcell h24 (adr a20 0) = some (.slice v21.a v21.len v21.cap) ∧
                  (hcell h24 (adr a18 0) = some (.slice v19.a v19.len v19.cap) ∧
                   ∃ xs25, SRow h24 (some (newA h12)) (1 * 1) xs25 ∧
                   AppP (some [.int .u32 0]) 1 4 t_u32 t11.1.a t11.1.len t11.1.cap 1 xs25 h24 (fun s26 h27 =>
                    (hcell h27 (adr a20 0) = some (.slice v21.a v21.len v21.cap) ∧
                     (hcell h27 (adr a18 0) = some (.slice v19.a v19.len v19.cap) ∧
                      J13 s26 h27)))))))))) (
             J13 t11.1 h12)))) (
          K t11.1 h12)) (⟨none, 0, 0⟩, 0) h1))))))
def A_l20_Act_parents : Ann := .node (.reg [1, 2] (.nil)) (.node (.reg [1, 2, 5] (.nil)) (.node (.node (.reg [1, 5, 18] (.nil)) (.node (.node (.reg [4] (.nil)) (.nil)) (.nil))) (.node (.reg [1, 5, 6] (.nil)) (.node (.node (.reg [1, 6, 21, 22, 23] (.nil)) (.loop [1, 21, 22] [(6, .c .slice), (23, .c (.int .i64))] (.node (.reg [1, 6, 21, 22, 23, 24] (.nil)) (.node (.nil) (.join [1, 21, 22, 23] [(6, .c .slice)] (.node (.reg [1, 6, 8, 21, 22, 23] (.nil)) (.node (.reg [1, 6, 8, 21, 22, 23, 32] (.nil)) (.node (.reg [1, 6, 21, 22, 23] (.draw [.mk 0 1048575 64 8589934592, .mk 0 1048575 2 17179869184, .mk 2 1048573 17179869184 34359738368, .mk 4 1048571 34359738368 68719476736, .mk 8 1048567 68719476736 137438953472, .mk 0 1048575 256 274877906944, .mk 32 1048543 274877906944 549755813888, .mk 64 1048511 549755813888 1099511627776, .mk 0 1048575 2 2199023255552, .mk 256 1048319 2199023255552 4398046511104, .mk 512 1048063 4398046511104 8796093022208, .mk 1024 1047551 8796093022208 17592186044416, .mk 2048 1046527 17592186044416 35184372088832, .mk 4224 1044351 36283883716608 70368744177664, .mk 8208 1040367 70506183131136 140737488355328, .mk 16384 1032191 140737488355328 281474976710656, .mk 32768 1015807 281474976710656 562949953421312, .mk 65536 983039 562949953421312 1125899906842624, .mk 131073 917502 1125908496777216 2251799813685248, .mk 524287 786430 2251799813685248 64] (.take 0 (.take 1 (.take 2 (.take 3 (.take 4 (.take 5 (.take 6 (.take 7 (.take 8 (.take 9 (.take 10 (.take 11 (.take 12 (.take 13 (.take 14 (.take 15 (.take 16 (.all (.last 17 (.all (.last 18 (.take 19 (.done))))))))))))))))))))))))) (.nil)))) (.reg [1, 6, 21, 22, 23] (.nil))))))) (.node (.reg [4] (.nil)) (.nil))))))
theorem E_l20_Act_parents (x0 : Int × Int × SliceV × Bool) (x1 : Option Addr) (K : Tup [.c .slice] → Heap → Prop) (h0 : Heap) : F_l20_Act_parents x0 x1 K h0 = sBody PG Try.f40 (Try.f40.body.getD .skip) A_l20_Act_parents [.agg #[.int .u8 x0.1, .int .u32 x0.2.1, .slice x0.2.2.1.a x0.2.2.1.len x0.2.2.1.cap, .bool x0.2.2.2], .pointer x1] [.c .slice] K h0 := by kernel_rfl
theorem H_l20_Act_parents (x0 : Int × Int × SliceV × Bool) (x1 : Option Addr) {K : Tup [.c .slice] → Heap → Prop} {h0 : Heap} (h : F_l20_Act_parents x0 x1 K h0) : HC PG f_l20_Act_parents [.agg #[.int .u8 x0.1, .int .u32 x0.2.1, .slice x0.2.2.1.a x0.2.2.1.len x0.2.2.1.cap, .bool x0.2.2.2], .pointer x1] [.c .slice] K h0 := HC.intro Try.mixed Try.func40 rfl Try.call40 (Nat.le_of_ble_eq_true rfl) ((E_l20_Act_parents x0 x1 K h0) ▸ h)
/-- quickset/quicksetref20.Put -/
def F_r20_Put (x0 : Option Addr) (x1 : Int) (x2 : SliceV) (K : (Int) → Heap → Prop) (h0 : Heap) : Prop :=
  HC PG f_r20_err [.slice x2.a x2.len x2.cap] [.c (.int .i64)] (fun (e1 : Int) h2 =>
   Join (fun (t4 : Bool) h5 => -- (22)
    CondP t4 (
     K 1 h5) (
     LoopP (fun I6 (t7 : Int) h8 => -- (25)
      CondP (decide (t7 < (x2.len : Int))) (
       (((0 : Int) ≤ t7 ∧ t7 < ((x2.len : Nat) : Int)) ∧ ∃ a9 : Addr, x2.a = some a9 ∧
        ∃ v10 : Int, hcell h8 (adr a9 (t7.toNat * 1)) = some (.int .u32 v10) ∧
        CondP (decide (v10 ≥ x1)) (
         K 1 h8) (
         I6 (IntKind.wrap .i64 (t7 + 1)) h8))) (
       HC PG f_r20_Find [.pointer x0, .int .u32 x1] [.c (.int .i64)] (fun (e11 : Int) h12 =>
        CondP (decide (e11 ≥ (0 : Int))) (
         K 7 h12) (
         HC PG f_r20_there [.pointer x0, .slice x2.a x2.len x2.cap] [.c (.int .i64)] (fun (e13 : Int) h14 =>
          CondP (e13 != (0 : Int)) (
           K e13 h14) (
           HC PG f_r20_insert [.pointer x0, .int .u32 x1, .slice x2.a x2.len x2.cap] [] (fun (e15 : Unit) h16 =>
            K 0 h16) h14)) h12)) h8)) 0 h5)) (fun J3 =>
    CondP (e1 != (0 : Int)) (
     J3 true h2) (
     CondP (x1 == (0 : Int)) (
      J3 true h2) (
      J3 (decide (x1 ≥ (2147483648 : Int))) h2)))) h0
def A_r20_Put : Ann := .node (.reg [0, 1, 2] (.nil)) (.node (.node (.reg [0, 1, 2, 7] (.nil)) (.join [0, 1, 2] [(22, .c .bool)] (.reg [0, 1, 2, 22] (.nil)) (.node (.node (.reg [6] (.nil)) (.nil)) (.nil)))) (.node (.node (.reg [0, 1, 2, 23, 24, 25] (.nil)) (.loop [0, 1, 2, 23, 24] [(25, .c (.int .i64))] (.node (.reg [0, 1, 2, 23, 24, 25, 26] (.nil)) (.node (.nil) (.node (.node (.reg [0, 1, 2, 9, 23, 24, 25] (.nil)) (.node (.reg [0, 1, 2, 23, 24, 25, 31] (.nil)) (.node (.node (.reg [6] (.nil)) (.nil)) (.nil)))) (.reg [0, 1, 2, 23, 24, 25] (.nil))))))) (.node (.node (.reg [0, 1, 2, 36] (.nil)) (.node (.node (.reg [6] (.nil)) (.nil)) (.nil))) (.node (.node (.reg [0, 1, 2, 10] (.nil)) (.node (.reg [0, 1, 2, 10, 41] (.nil)) (.node (.node (.reg [6] (.nil)) (.nil)) (.nil)))) (.node (.reg [] (.nil)) (.node (.reg [6] (.nil)) (.nil)))))))
theorem E_r20_Put (x0 : Option Addr) (x1 : Int) (x2 : SliceV) (K : Tup [.c (.int .i64)] → Heap → Prop) (h0 : Heap) : F_r20_Put x0 x1 x2 K h0 = sBody PG Try.f41 (Try.f41.body.getD .skip) A_r20_Put [.pointer x0, .int .u32 x1, .slice x2.a x2.len x2.cap] [.c (.int .i64)] K h0 := by kernel_rfl
theorem H_r20_Put (x0 : Option Addr) (x1 : Int) (x2 : SliceV) {K : Tup [.c (.int .i64)] → Heap → Prop} {h0 : Heap} (h : F_r20_Put x0 x1 x2 K h0) : HC PG f_r20_Put [.pointer x0, .int .u32 x1, .slice x2.a x2.len x2.cap] [.c (.int .i64)] K h0 := HC.intro Try.mixed Try.func41 rfl Try.call41 (Nat.le_of_ble_eq_true rfl) ((E_r20_Put x0 x1 x2 K h0) ▸ h)
/-- quickset/quicksetref20.Drop -/
def F_r20_Drop (x0 : Option Addr) (x1 : SliceV) (K : (SliceV) → Heap → Prop) (h0 : Heap) : Prop :=
  LoopP (fun I1 (t2 : SliceV × Int) h3 => -- stay(5), (14)
   CondP (decide (t2.2 < (x1.len : Int))) (
    Join (fun (t12 : SliceV) h13 => -- stay(5)
     I1 (t12, IntKind.wrap .i64 (t2.2 + 1)) h13) (fun J4 =>
     (((0 : Int) ≤ t2.2 ∧ t2.2 < ((x1.len : Nat) : Int)) ∧ ∃ a5 : Addr, x1.a = some a5 ∧
      ∃ v6 : Int, hcell h3 (adr a5 (t2.2.toNat * 1)) = some (.int .u32 v6) ∧
      HC PG f_r20_Above [.pointer x0, .int .u32 v6] [.c .slice] (fun (e7 : SliceV) h8 =>
       ∃ xs9, SRow h8 e7.a (e7.len * 1) xs9 ∧
       AppP (some [.int .u32 0]) 1 4 t_u32 t2.1.a t2.1.len t2.1.cap e7.len xs9 h8 (fun s10 h11 =>
        J4 s10 h11)) h3))) (
    ∃ a14 : Addr, x0 = some a14 ∧
    ∃ v15 : SliceV, hcell h3 (adr a14 0) = some (.slice v15.a v15.len v15.cap) ∧
    LoopP (fun I16 (t17 : SliceV × SliceV × Int) h18 => -- out(6), left(9), (29)
     CondP (decide (t17.2.2 < (v15.len : Int))) (
      Join (fun (t39 : SliceV × SliceV) h40 => -- out(6), left(9)
       I16 (t39.1, t39.2, IntKind.wrap .i64 (t17.2.2 + 1)) h40) (fun J19 =>
       (((0 : Int) ≤ t17.2.2 ∧ t17.2.2 < ((v15.len : Nat) : Int)) ∧ ∃ a20 : Addr, v15.a = some a20 ∧
        ∃ v21 : Int, hcell h18 (adr (adr a20 (t17.2.2.toNat * 2)) 0) = some (.int .u32 v21) ∧
        ∃ v22 : SliceV, hcell h18 (adr (adr a20 (t17.2.2.toNat * 2)) 1) = some (.slice v22.a v22.len v22.cap) ∧
        At (hnew h18 [.int .u32 0, .slice none 0 0] t_r20_Version) (fun h23 =>
         (WrS h23 (some (newA h18)) 0 [.int .u32 v21, .slice v22.a v22.len v22.cap] ∧
          At (hsetL h23 (newA h18) 0 [.int .u32 v21, .slice v22.a v22.len v22.cap]) (fun h24 =>
           ∃ v25 : Int, hcell h24 (adr (newA h18) 0) = some (.int .u32 v25) ∧
           HC PG f_r20_Has [.slice t2.1.a t2.1.len t2.1.cap, .int .u32 v25] [.c .bool] (fun (e26 : Bool) h27 =>
            CondP e26 (
             ∃ v28 : Int, hcell h27 (adr (newA h18) 0) = some (.int .u32 v28) ∧
             ∃ v29 : SliceV, hcell h27 (adr (newA h18) 1) = some (.slice v29.a v29.len v29.cap) ∧
             At (hnew h27 [.int .u32 v28, .slice v29.a v29.len v29.cap] t_r20_Version) (fun h30 =>
              ∃ xs31, SRow h30 (some (newA h27)) (1 * 2) xs31 ∧
              AppP (some [.int .u32 0, .slice none 0 0]) 2 32 t_r20_Version t17.2.1.a t17.2.1.len t17.2.1.cap 1 xs31 h30 (fun s32 h33 =>
               J19 (t17.1, s32) h33))) (
             ∃ v34 : Int, hcell h27 (adr (newA h18) 0) = some (.int .u32 v34) ∧
             At (hnew h27 [.int .u32 v34] t_u32) (fun h35 =>
              ∃ xs36, SRow h35 (some (newA h27)) (1 * 1) xs36 ∧
              AppP (some [.int .u32 0]) 1 4 t_u32 t17.1.a t17.1.len t17.1.cap 1 xs36 h35 (fun s37 h38 =>
               J19 (s37, t17.2.1) h38)))) h24)))))) (
      ∃ a41 : Addr, x0 = some a41 ∧
      (Wr h18 (adr a41 0) ∧
       At (hset h18 (adr a41 0) (.slice t17.2.1.a t17.2.1.len t17.2.1.cap)) (fun h42 =>
        K t17.1 h42)))) (⟨none, 0, 0⟩, ⟨none, 0, 0⟩, 0) h3)) (⟨none, 0, 0⟩, 0) h0
def A_r20_Drop : Ann := .node (.reg [0, 1] (.nil)) (.node (.reg [0, 1, 5, 6] (.nil)) (.node (.node (.reg [0, 5, 6, 12, 13, 14] (.nil)) (.loop [0, 6, 12, 13] [(5, .c .slice), (14, .c (.int .i64))] (.node (.reg [0, 5, 6, 12, 13, 14, 15] (.nil)) (.node (.nil) (.join [0, 6, 12, 13, 14] [(5, .c .slice)] (.node (.reg [0, 5, 6, 8, 12, 13, 14] (.nil)) (.reg [0, 5, 6, 12, 13, 14] (.nil))) (.reg [0, 5, 6, 12, 13, 14] (.nil))))))) (.node (.reg [0, 5, 6, 9] (.nil)) (.node (.node (.reg [0, 5, 6, 9, 27, 28, 29] (.nil)) (.loop [0, 5, 27, 28] [(6, .c .slice), (9, .c .slice), (29, .c (.int .i64))] (.node (.reg [0, 5, 6, 9, 27, 28, 29, 30] (.nil)) (.node (.nil) (.join [0, 5, 27, 28, 29] [(6, .c .slice), (9, .c .slice)] (.node (.reg [0, 5, 6, 9, 11, 27, 28, 29] (.nil)) (.node (.reg [0, 5, 6, 9, 11, 27, 28, 29, 36] (.nil)) (.node (.reg [0, 5, 6, 9, 27, 28, 29] (.nil)) (.reg [0, 5, 6, 9, 27, 28, 29] (.nil))))) (.reg [0, 5, 6, 9, 27, 28, 29] (.nil))))))) (.node (.reg [6] (.nil)) (.node (.reg [4] (.nil)) (.nil)))))))
theorem E_r20_Drop (x0 : Option Addr) (x1 : SliceV) (K : Tup [.c .slice] → Heap → Prop) (h0 : Heap) : F_r20_Drop x0 x1 K h0 = sBody PG Try.f42 (Try.f42.body.getD .skip) A_r20_Drop [.pointer x0, .slice x1.a x1.len x1.cap] [.c .slice] K h0 := by kernel_rfl
theorem H_r20_Drop (x0 : Option Addr) (x1 : SliceV) {K : Tup [.c .slice] → Heap → Prop} {h0 : Heap} (h : F_r20_Drop x0 x1 K h0) : HC PG f_r20_Drop [.pointer x0, .slice x1.a x1.len x1.cap] [.c .slice] K h0 := HC.intro Try.mixed Try.func42 rfl Try.call42 (Nat.le_of_ble_eq_true rfl) ((E_r20_Drop x0 x1 K h0) ▸ h)
/-- quickset/quicksetref20.Add -/
def F_r20_Add (x0 : Option Addr) (x1 : SliceV) (K : (Int × Int) → Heap → Prop) (h0 : Heap) : Prop :=
  HC PG f_r20_err [.slice x1.a x1.len x1.cap] [.c (.int .i64)] (fun (e1 : Int) h2 =>
   CondP (e1 != (0 : Int)) (
    K (0, e1) h2) (
    HC PG f_r20_there [.pointer x0, .slice x1.a x1.len x1.cap] [.c (.int .i64)] (fun (e3 : Int) h4 =>
     CondP (e3 != (0 : Int)) (
      K (0, e3) h4) (
      ∃ a5 : Addr, x0 = some a5 ∧
      ∃ v6 : Int, hcell h4 (adr a5 1) = some (.int .u32 v6) ∧
      CondP (decide (v6 ≥ (2147483648 : Int))) (
       K (0, 6) h4) (
       ∃ a7 : Addr, x0 = some a7 ∧
       ∃ v8 : Int, hcell h4 (adr a7 1) = some (.int .u32 v8) ∧
       HC PG f_r20_insert [.pointer x0, .int .u32 v8, .slice x1.a x1.len x1.cap] [] (fun (e9 : Unit) h10 =>
        K (v8, 0) h10) h4))) h2)) h0
def A_r20_Add : Ann := .node (.reg [0, 1] (.nil)) (.node (.node (.reg [0, 1, 6] (.nil)) (.node (.reg [0, 1, 6, 12] (.nil)) (.node (.node (.reg [4, 5] (.nil)) (.nil)) (.nil)))) (.node (.node (.reg [0, 1, 7] (.nil)) (.node (.reg [0, 1, 7, 18] (.nil)) (.node (.node (.reg [4, 5] (.nil)) (.nil)) (.nil)))) (.node (.node (.reg [0, 1, 24] (.nil)) (.node (.node (.reg [4, 5] (.nil)) (.nil)) (.nil))) (.node (.reg [0, 1, 8] (.nil)) (.node (.reg [8] (.nil)) (.node (.reg [4, 5] (.nil)) (.nil)))))))
theorem E_r20_Add (x0 : Option Addr) (x1 : SliceV) (K : Tup [.c (.int .u32), .c (.int .i64)] → Heap → Prop) (h0 : Heap) : F_r20_Add x0 x1 K h0 = sBody PG Try.f43 (Try.f43.body.getD .skip) A_r20_Add [.pointer x0, .slice x1.a x1.len x1.cap] [.c (.int .u32), .c (.int .i64)] K h0 := by kernel_rfl
theorem H_r20_Add (x0 : Option Addr) (x1 : SliceV) {K : Tup [.c (.int .u32), .c (.int .i64)] → Heap → Prop} {h0 : Heap} (h : F_r20_Add x0 x1 K h0) : HC PG f_r20_Add [.pointer x0, .slice x1.a x1.len x1.cap] [.c (.int .u32), .c (.int .i64)] K h0 := HC.intro Try.mixed Try.func43 rfl Try.call43 (Nat.le_of_ble_eq_true rfl) ((E_r20_Add x0 x1 K h0) ▸ h)
/-- maps.Keys[map[uint32][]uint32,uint32,[]uint32] -/
def F_maps_Keys_M_u32_A_u32_u32_A_u32 (x0 : Option Nat) (K : (Value) → Heap → Prop) (h0 : Heap) : Prop :=
  At (hnew h0 [.map x0] t_M_u32_A_u32) (fun h1 =>
   K (.func (.func f_maps_Keys_M_u32_A_u32_u32_A_u32_1) #[] #[.pointer (some (newA h0))]) h1)
def A_maps_Keys_M_u32_A_u32_u32_A_u32 : Ann := .node (.reg [1] (.nil)) (.node (.reg [2] (.nil)) (.nil))
theorem E_maps_Keys_M_u32_A_u32_u32_A_u32 (x0 : Option Nat) (K : Tup [.c .raw] → Heap → Prop) (h0 : Heap) : F_maps_Keys_M_u32_A_u32_u32_A_u32 x0 K h0 = sBody PG Try.f44 (Try.f44.body.getD .skip) A_maps_Keys_M_u32_A_u32_u32_A_u32 [.map x0] [.c .raw] K h0 := by kernel_rfl
theorem H_maps_Keys_M_u32_A_u32_u32_A_u32 (x0 : Option Nat) {K : Tup [.c .raw] → Heap → Prop} {h0 : Heap} (h : F_maps_Keys_M_u32_A_u32_u32_A_u32 x0 K h0) : HC PG f_maps_Keys_M_u32_A_u32_u32_A_u32 [.map x0] [.c .raw] K h0 := HC.intro Try.mixed Try.func44 rfl Try.call44 (Nat.le_of_ble_eq_true rfl) ((E_maps_Keys_M_u32_A_u32_u32_A_u32 x0 K h0) ▸ h)
/-- slices.ContainsFunc[[]uint32,uint32] -/
def F_slices_ContainsFunc_A_u32_u32 (x0 : SliceV) (x1 : Value) (K : (Bool) → Heap → Prop) (h0 : Heap) : Prop :=
  HC PG f_slices_IndexFunc_A_u32_u32 [.slice x0.a x0.len x0.cap, x1] [.c (.int .i64)] (fun (e1 : Int) h2 =>
   K (decide (e1 ≥ (0 : Int))) h2) h0
def A_slices_ContainsFunc_A_u32_u32 : Ann := .node (.reg [0, 1] (.nil)) (.node (.reg [4] (.nil)) (.nil))
theorem E_slices_ContainsFunc_A_u32_u32 (x0 : SliceV) (x1 : Value) (K : Tup [.c .bool] → Heap → Prop) (h0 : Heap) : F_slices_ContainsFunc_A_u32_u32 x0 x1 K h0 = sBody PG Try.f45 (Try.f45.body.getD .skip) A_slices_ContainsFunc_A_u32_u32 [.slice x0.a x0.len x0.cap, x1] [.c .bool] K h0 := by kernel_rfl
theorem H_slices_ContainsFunc_A_u32_u32 (x0 : SliceV) (x1 : Value) {K : Tup [.c .bool] → Heap → Prop} {h0 : Heap} (h : F_slices_ContainsFunc_A_u32_u32 x0 x1 K h0) : HC PG f_slices_ContainsFunc_A_u32_u32 [.slice x0.a x0.len x0.cap, x1] [.c .bool] K h0 := HC.intro Try.mixed Try.func45 rfl Try.call45 (Nat.le_of_ble_eq_true rfl) ((E_slices_ContainsFunc_A_u32_u32 x0 x1 K h0) ▸ h)
end Go.Proofs
