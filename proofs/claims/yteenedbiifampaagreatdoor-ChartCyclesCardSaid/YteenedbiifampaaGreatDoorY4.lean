/- ChartCycles, part 4 of its proof: declarations that the last part uses. -/
import Derived.Test.YteenedbiifampaaGreatDoorY3
set_option maxHeartbeats 1000000
set_option maxRecDepth 4000
set_option linter.unusedSimpArgs false
set_option linter.unusedVariables false
set_option linter.unusedSectionVars false
namespace Go.Sx.Pn
open Go Go.Proofs Go.Sx
def tab:Tab:=[(1,⟨.other,1,8,[.nilFunc]⟩),(2,⟨.int .i64,1,8,[.int .i64 0]⟩),(3,⟨.int .i64,1,8,[.int .i64 0]⟩),(4,⟨.bool,1,1,[.bool false]⟩),(5,⟨.int .u8,1,1,[.int .u8 0]⟩),(6,⟨.int .u8,1,1,[.int .u8 0]⟩),(7,⟨.struct [(0,2),(1,3),(2,4),(3,6)],4,24,[.int .i64 0,.int .i64 0,.bool false,.int .u8 0]⟩),(8,⟨.struct [(0,2),(1,3),(2,4),(3,6)],4,24,[.int .i64 0,.int .i64 0,.bool false,.int .u8 0]⟩),(9,⟨.string,1,16,[.string ByteArray.empty]⟩),(10,⟨.string,1,16,[.string ByteArray.empty]⟩),(11,⟨.string,1,16,[.string ByteArray.empty]⟩),(12,⟨.int .u64,1,8,[.int .u64 0]⟩),(15,⟨.other,1,8,[.pointer none]⟩),(16,⟨.other,1,8,[.pointer none]⟩),(17,⟨.other,1,8,[.pointer none]⟩),(20,⟨.other,1,16,[.nilIface]⟩),(21,⟨.int .i32,1,4,[.int .i32 0]⟩),(22,⟨.slice 9,1,24,[.slice none 0 0]⟩),(23,⟨.slice 108,1,24,[.slice none 0 0]⟩),(24,⟨.slice 81,1,24,[.slice none 0 0]⟩),(25,⟨.struct [(0,3),(1,22),(2,23),(3,24)],4,80,[.int .i64 0,.slice none 0 0,.slice none 0 0,.slice none 0 0]⟩),(26,⟨.struct [(0,3),(1,22),(2,23),(3,24)],4,80,[.int .i64 0,.slice none 0 0,.slice none 0 0,.slice none 0 0]⟩),(27,⟨.other,1,8,[.nilFunc]⟩),(28,⟨.other,1,8,[.nilFunc]⟩),(29,⟨.slice 3,1,24,[.slice none 0 0]⟩),(30,⟨.int .i64,1,8,[.int .i64 0]⟩),(32,⟨.other,1,8,[.nilFunc]⟩),(33,⟨.slice 89,1,24,[.slice none 0 0]⟩),(34,⟨.slice 123,1,24,[.slice none 0 0]⟩),(35,⟨.struct [(0,3),(1,22),(2,33),(3,34)],4,80,[.int .i64 0,.slice none 0 0,.slice none 0 0,.slice none 0 0]⟩),(36,⟨.struct [(0,3),(1,22),(2,33),(3,34)],4,80,[.int .i64 0,.slice none 0 0,.slice none 0 0,.slice none 0 0]⟩),(37,⟨.other,1,8,[.nilFunc]⟩),(39,⟨.other,1,8,[.nilFunc]⟩),(40,⟨.other,1,8,[.nilFunc]⟩),(41,⟨.slice 95,1,24,[.slice none 0 0]⟩),(42,⟨.struct [(0,3),(1,41)],2,32,[.int .i64 0,.slice none 0 0]⟩),(43,⟨.struct [(0,3),(1,41)],2,32,[.int .i64 0,.slice none 0 0]⟩),(44,⟨.other,1,8,[.nilFunc]⟩),(46,⟨.other,1,8,[.nilFunc]⟩),(48,⟨.other,1,8,[.nilFunc]⟩),(49,⟨.other,1,8,[.nilFunc]⟩),(50,⟨.other,1,8,[.nilFunc]⟩),(52,⟨.other,1,8,[.nilFunc]⟩),(54,⟨.other,1,8,[.nilFunc]⟩),(56,⟨.other,1,8,[.nilFunc]⟩),(58,⟨.other,1,8,[.nilFunc]⟩),(59,⟨.other,1,8,[.nilFunc]⟩),(60,⟨.other,1,8,[.nilFunc]⟩),(61,⟨.other,1,8,[.nilFunc]⟩),(62,⟨.slice 72,1,24,[.slice none 0 0]⟩),(64,⟨.other,1,8,[.nilFunc]⟩),(66,⟨.other,1,8,[.nilFunc]⟩),(68,⟨.other,1,8,[.nilFunc]⟩),(70,⟨.other,1,8,[.nilFunc]⟩),(71,⟨.other,1,8,[.nilFunc]⟩),(72,⟨.slice 4,1,24,[.slice none 0 0]⟩),(75,⟨.other,1,8,[.nilFunc]⟩),(76,⟨.map 3 4,1,8,[.map none]⟩),(77,⟨.slice 79,1,24,[.slice none 0 0]⟩),(78,⟨.struct [(0,3),(1,3),(2,77)],3,40,[.int .i64 0,.int .i64 0,.slice none 0 0]⟩),(79,⟨.struct [(0,3),(1,3),(2,77)],3,40,[.int .i64 0,.int .i64 0,.slice none 0 0]⟩),(80,⟨.struct [(0,29),(1,29),(2,79)],5,88,[.slice none 0 0,.slice none 0 0,.int .i64 0,.int .i64 0,.slice none 0 0]⟩),(81,⟨.struct [(0,29),(1,29),(2,79)],5,88,[.slice none 0 0,.slice none 0 0,.int .i64 0,.int .i64 0,.slice none 0 0]⟩),(82,⟨.other,1,8,[.nilFunc]⟩),(83,⟨.other,1,8,[.nilFunc]⟩),(84,⟨.other,1,8,[.nilFunc]⟩),(87,⟨.slice 94,1,24,[.slice none 0 0]⟩),(88,⟨.struct [(0,87),(1,3)],2,32,[.slice none 0 0,.int .i64 0]⟩),(89,⟨.struct [(0,87),(1,3)],2,32,[.slice none 0 0,.int .i64 0]⟩),(91,⟨.other,1,8,[.nilFunc]⟩),(92,⟨.other,1,8,[.nilFunc]⟩),(93,⟨.struct [(0,3),(1,4)],2,16,[.int .i64 0,.bool false]⟩),(94,⟨.struct [(0,3),(1,4)],2,16,[.int .i64 0,.bool false]⟩),(95,⟨.struct [(0,87),(1,3)],2,32,[.slice none 0 0,.int .i64 0]⟩),(97,⟨.other,1,8,[.nilFunc]⟩),(99,⟨.other,1,8,[.nilFunc]⟩),(100,⟨.map 3 3,1,8,[.map none]⟩),(102,⟨.other,1,8,[.nilFunc]⟩),(103,⟨.other,1,8,[.nilFunc]⟩),(105,⟨.other,1,8,[.nilFunc]⟩),(107,⟨.other,1,8,[.nilFunc]⟩),(108,⟨.struct [(0,87),(1,3)],2,32,[.slice none 0 0,.int .i64 0]⟩),(109,⟨.other,1,8,[.nilFunc]⟩),(110,⟨.other,1,8,[.nilFunc]⟩),(111,⟨.other,1,8,[.nilFunc]⟩),(112,⟨.slice 117,1,24,[.slice none 0 0]⟩),(113,⟨.slice 29,1,24,[.slice none 0 0]⟩),(115,⟨.other,1,8,[.nilFunc]⟩),(116,⟨.array 24 4,24,24,[.bool false,.bool false,.bool false,.bool false,.bool false,.bool false,.bool false,.bool false,.bool false,.bool false,.bool false,.bool false,.bool false,.bool false,.bool false,.bool false,.bool false,.bool false,.bool false,.bool false,.bool false,.bool false,.bool false,.bool false]⟩),(117,⟨.array 24 4,24,24,[.bool false,.bool false,.bool false,.bool false,.bool false,.bool false,.bool false,.bool false,.bool false,.bool false,.bool false,.bool false,.bool false,.bool false,.bool false,.bool false,.bool false,.bool false,.bool false,.bool false,.bool false,.bool false,.bool false,.bool false]⟩),(120,⟨.other,1,8,[.nilFunc]⟩),(121,⟨.other,1,8,[.nilFunc]⟩),(122,⟨.other,1,8,[.nilFunc]⟩),(123,⟨.struct [(0,29),(1,29),(2,79)],5,88,[.slice none 0 0,.slice none 0 0,.int .i64 0,.int .i64 0,.slice none 0 0]⟩),(124,⟨.slice 129,1,24,[.slice none 0 0]⟩),(126,⟨.other,1,8,[.nilFunc]⟩),(127,⟨.other,1,8,[.nilFunc]⟩),(128,⟨.struct [(0,72),(1,29)],2,48,[.slice none 0 0,.slice none 0 0]⟩),(129,⟨.struct [(0,72),(1,29)],2,48,[.slice none 0 0,.slice none 0 0]⟩),(130,⟨.other,1,8,[.nilFunc]⟩),(131,⟨.other,1,8,[.nilFunc]⟩),(132,⟨.other,1,8,[.nilFunc]⟩),(135,⟨.other,1,8,[.nilFunc]⟩),(136,⟨.other,1,8,[.nilFunc]⟩),(137,⟨.other,1,8,[.nilFunc]⟩),(138,⟨.other,1,8,[.nilFunc]⟩),(139,⟨.other,1,8,[.nilFunc]⟩),(140,⟨.other,1,8,[.pointer none]⟩),(141,⟨.slice 5,1,24,[.slice none 0 0]⟩),(142,⟨.struct [(0,140),(1,141)],2,32,[.pointer none,.slice none 0 0]⟩),(143,⟨.struct [(0,140),(1,141)],2,32,[.pointer none,.slice none 0 0]⟩),(144,⟨.other,1,16,[.nilIface]⟩),(145,⟨.other,1,16,[.nilIface]⟩),(147,⟨.other,1,8,[.nilFunc]⟩),(148,⟨.other,1,8,[.nilFunc]⟩),(149,⟨.other,1,8,[.nilFunc]⟩),(150,⟨.other,1,8,[.nilFunc]⟩),(152,⟨.other,1,8,[.nilFunc]⟩),(153,⟨.other,1,8,[.nilFunc]⟩),(154,⟨.string,1,16,[.string ByteArray.empty]⟩),(155,⟨.other,1,8,[.nilFunc]⟩),(156,⟨.other,1,8,[.nilFunc]⟩),(157,⟨.other,1,8,[.nilFunc]⟩),(158,⟨.other,1,8,[.nilFunc]⟩),(159,⟨.other,1,8,[.nilFunc]⟩),(160,⟨.other,1,8,[.nilFunc]⟩),(161,⟨.other,1,8,[.nilFunc]⟩),(163,⟨.other,1,8,[.nilFunc]⟩),(164,⟨.other,1,8,[.nilFunc]⟩),(165,⟨.other,1,8,[.nilFunc]⟩),(166,⟨.other,1,8,[.nilFunc]⟩),(167,⟨.other,1,8,[.nilFunc]⟩),(168,⟨.other,1,8,[.nilFunc]⟩),(169,⟨.other,1,8,[.nilFunc]⟩),(170,⟨.other,1,8,[.nilFunc]⟩),(171,⟨.other,1,8,[.nilFunc]⟩),(172,⟨.other,1,8,[.nilFunc]⟩),(173,⟨.other,1,8,[.nilFunc]⟩),(177,⟨.other,1,8,[.nilFunc]⟩),(178,⟨.other,1,8,[.nilFunc]⟩),(179,⟨.other,1,8,[.nilFunc]⟩),(184,⟨.other,1,8,[.nilFunc]⟩),(185,⟨.other,1,8,[.nilFunc]⟩),(186,⟨.other,1,8,[.nilFunc]⟩),(187,⟨.other,1,8,[.nilFunc]⟩),(188,⟨.other,1,8,[.nilFunc]⟩),(189,⟨.other,1,8,[.nilFunc]⟩),(190,⟨.other,1,8,[.nilFunc]⟩),(191,⟨.other,1,8,[.nilFunc]⟩),(192,⟨.other,1,8,[.nilFunc]⟩),(193,⟨.array 6 4,6,6,[.bool false,.bool false,.bool false,.bool false,.bool false,.bool false]⟩),(194,⟨.array 6 4,6,6,[.bool false,.bool false,.bool false,.bool false,.bool false,.bool false]⟩),(195,⟨.other,1,8,[.nilFunc]⟩),(197,⟨.other,1,8,[.nilFunc]⟩),(198,⟨.other,1,8,[.nilFunc]⟩),(199,⟨.other,1,8,[.nilFunc]⟩),(200,⟨.other,1,8,[.pointer none]⟩),(201,⟨.struct [(0,143),(2,22)],3,56,[.pointer none,.slice none 0 0,.slice none 0 0]⟩),(202,⟨.struct [(0,143),(2,22)],3,56,[.pointer none,.slice none 0 0,.slice none 0 0]⟩),(203,⟨.other,1,8,[.nilFunc]⟩),(204,⟨.other,1,8,[.nilFunc]⟩),(205,⟨.other,1,8,[.nilFunc]⟩),(206,⟨.other,1,8,[.pointer none]⟩),(208,⟨.other,1,8,[.nilFunc]⟩),(209,⟨.other,1,8,[.nilFunc]⟩),(210,⟨.other,1,8,[.nilFunc]⟩),(211,⟨.other,1,8,[.nilFunc]⟩),(212,⟨.other,1,8,[.nilFunc]⟩),(213,⟨.other,1,8,[.nilFunc]⟩),(214,⟨.int .u64,1,8,[.int .u64 0]⟩),(216,⟨.other,1,8,[.nilFunc]⟩),(217,⟨.other,1,8,[.nilFunc]⟩),(218,⟨.other,1,8,[.nilFunc]⟩),(219,⟨.other,1,8,[.nilFunc]⟩),(220,⟨.other,1,8,[.nilFunc]⟩),(222,⟨.other,1,8,[.nilFunc]⟩),(223,⟨.map 117 4,1,8,[.map none]⟩),(224,⟨.other,1,8,[.nilFunc]⟩),(225,⟨.other,1,8,[.nilFunc]⟩),(226,⟨.other,1,8,[.pointer none]⟩),(227,⟨.other,1,8,[.nilFunc]⟩),(228,⟨.other,1,8,[.nilFunc]⟩),(229,⟨.other,1,8,[.nilFunc]⟩),(232,⟨.other,1,8,[.nilFunc]⟩),(233,⟨.other,1,8,[.nilFunc]⟩),(234,⟨.other,1,8,[.nilFunc]⟩),(237,⟨.slice 3,1,24,[.slice none 0 0]⟩),(238,⟨.other,1,8,[.nilFunc]⟩),(239,⟨.other,1,8,[.nilFunc]⟩),(240,⟨.other,1,8,[.nilFunc]⟩),(241,⟨.other,1,8,[.nilFunc]⟩),(243,⟨.int .i64,1,8,[.int .i64 0]⟩),(245,⟨.other,1,8,[.nilFunc]⟩),(246,⟨.other,1,8,[.nilFunc]⟩),(250,⟨.int .u32,1,4,[.int .u32 0]⟩),(252,⟨.int .u64,1,8,[.int .u64 0]⟩),(253,⟨.array 24 5,24,24,[.int .u8 0,.int .u8 0,.int .u8 0,.int .u8 0,.int .u8 0,.int .u8 0,.int .u8 0,.int .u8 0,.int .u8 0,.int .u8 0,.int .u8 0,.int .u8 0,.int .u8 0,.int .u8 0,.int .u8 0,.int .u8 0,.int .u8 0,.int .u8 0,.int .u8 0,.int .u8 0,.int .u8 0,.int .u8 0,.int .u8 0,.int .u8 0]⟩),(256,⟨.other,1,8,[.nilFunc]⟩),(257,⟨.other,1,8,[.nilFunc]⟩),(258,⟨.other,1,8,[.nilFunc]⟩),(260,⟨.struct [(0,3),(1,3),(2,258)],3,24,[.int .i64 0,.int .i64 0,.nilFunc]⟩),(261,⟨.array 5 260,15,120,[.int .i64 0,.int .i64 0,.nilFunc,.int .i64 0,.int .i64 0,.nilFunc,.int .i64 0,.int .i64 0,.nilFunc,.int .i64 0,.int .i64 0,.nilFunc,.int .i64 0,.int .i64 0,.nilFunc]⟩),(265,⟨.int .u64,1,8,[.int .u64 0]⟩),(266,⟨.other,1,8,[.nilFunc]⟩),(267,⟨.other,1,8,[.nilFunc]⟩),(269,⟨.other,1,8,[.pointer none]⟩),(275,⟨.array 20 252,20,160,[.int .u64 0,.int .u64 0,.int .u64 0,.int .u64 0,.int .u64 0,.int .u64 0,.int .u64 0,.int .u64 0,.int .u64 0,.int .u64 0,.int .u64 0,.int .u64 0,.int .u64 0,.int .u64 0,.int .u64 0,.int .u64 0,.int .u64 0,.int .u64 0,.int .u64 0,.int .u64 0]⟩),(276,⟨.array 65 5,65,65,[.int .u8 0,.int .u8 0,.int .u8 0,.int .u8 0,.int .u8 0,.int .u8 0,.int .u8 0,.int .u8 0,.int .u8 0,.int .u8 0,.int .u8 0,.int .u8 0,.int .u8 0,.int .u8 0,.int .u8 0,.int .u8 0,.int .u8 0,.int .u8 0,.int .u8 0,.int .u8 0,.int .u8 0,.int .u8 0,.int .u8 0,.int .u8 0,.int .u8 0,.int .u8 0,.int .u8 0,.int .u8 0,.int .u8 0,.int .u8 0,.int .u8 0,.int .u8 0,.int .u8 0,.int .u8 0,.int .u8 0,.int .u8 0,.int .u8 0,.int .u8 0,.int .u8 0,.int .u8 0,.int .u8 0,.int .u8 0,.int .u8 0,.int .u8 0,.int .u8 0,.int .u8 0,.int .u8 0,.int .u8 0,.int .u8 0,.int .u8 0,.int .u8 0,.int .u8 0,.int .u8 0,.int .u8 0,.int .u8 0,.int .u8 0,.int .u8 0,.int .u8 0,.int .u8 0,.int .u8 0,.int .u8 0,.int .u8 0,.int .u8 0,.int .u8 0,.int .u8 0]⟩),(277,⟨.other,1,8,[.nilFunc]⟩),(282,⟨.other,1,8,[.pointer none]⟩),(284,⟨.other,1,8,[.nilFunc]⟩),(285,⟨.other,1,8,[.nilFunc]⟩),(286,⟨.array 256 4,256,256,(List.replicate 256 (.bool false))⟩),(287,⟨.array 256 4,256,256,(List.replicate 256 (.bool false))⟩),(291,⟨.other,1,8,[.pointer none]⟩),(292,⟨.array 32 5,32,32,[.int .u8 0,.int .u8 0,.int .u8 0,.int .u8 0,.int .u8 0,.int .u8 0,.int .u8 0,.int .u8 0,.int .u8 0,.int .u8 0,.int .u8 0,.int .u8 0,.int .u8 0,.int .u8 0,.int .u8 0,.int .u8 0,.int .u8 0,.int .u8 0,.int .u8 0,.int .u8 0,.int .u8 0,.int .u8 0,.int .u8 0,.int .u8 0,.int .u8 0,.int .u8 0,.int .u8 0,.int .u8 0,.int .u8 0,.int .u8 0,.int .u8 0,.int .u8 0]⟩),(293,⟨.array 64 5,64,64,[.int .u8 0,.int .u8 0,.int .u8 0,.int .u8 0,.int .u8 0,.int .u8 0,.int .u8 0,.int .u8 0,.int .u8 0,.int .u8 0,.int .u8 0,.int .u8 0,.int .u8 0,.int .u8 0,.int .u8 0,.int .u8 0,.int .u8 0,.int .u8 0,.int .u8 0,.int .u8 0,.int .u8 0,.int .u8 0,.int .u8 0,.int .u8 0,.int .u8 0,.int .u8 0,.int .u8 0,.int .u8 0,.int .u8 0,.int .u8 0,.int .u8 0,.int .u8 0,.int .u8 0,.int .u8 0,.int .u8 0,.int .u8 0,.int .u8 0,.int .u8 0,.int .u8 0,.int .u8 0,.int .u8 0,.int .u8 0,.int .u8 0,.int .u8 0,.int .u8 0,.int .u8 0,.int .u8 0,.int .u8 0,.int .u8 0,.int .u8 0,.int .u8 0,.int .u8 0,.int .u8 0,.int .u8 0,.int .u8 0,.int .u8 0,.int .u8 0,.int .u8 0,.int .u8 0,.int .u8 0,.int .u8 0,.int .u8 0,.int .u8 0,.int .u8 0]⟩),(314,⟨.int .i32,1,4,[.int .i32 0]⟩)]
theorem aA:tab.Ok Tryz.prog:=
  Tab.aj (TI.mk' (z:=(.nilFunc)) (TD.ak (by kernel_rfl)) (by kernel_rfl) rfl rfl rfl)<|Tab.aj (TI.mk' (z:=(.int .i64 0)) (show Tryz.prog.underlying 2=some (.int .i64) by kernel_rfl) (by kernel_rfl) rfl rfl rfl)<|Tab.aj (TI.mk' (z:=(.int .i64 0)) (show Tryz.prog.underlying 3=some (.int .i64) by kernel_rfl) (by kernel_rfl) rfl rfl rfl)<|Tab.aj (TI.mk' (z:=(.bool false)) (show Tryz.prog.underlying 4=some (.bool) by kernel_rfl) (by kernel_rfl) rfl rfl rfl)<|Tab.aj (TI.mk' (z:=(.int .u8 0)) (show Tryz.prog.underlying 5=some (.int .u8) by kernel_rfl) (by kernel_rfl) rfl rfl rfl)<|Tab.aj (TI.mk' (z:=(.int .u8 0)) (show Tryz.prog.underlying 6=some (.int .u8) by kernel_rfl) (by kernel_rfl) rfl rfl rfl)<|Tab.aj (TI.mk' (z:=(.agg #[.int .i64 0,.int .i64 0,.bool false,.int .u8 0])) (TD.mkStruct (l:=[(0,2),(1,3),(2,4),(3,6)]) (by kernel_rfl) (by kernel_rfl) (by kernel_rfl)) (by kernel_rfl) rfl rfl rfl)<|Tab.aj (TI.mk' (z:=(.agg #[.int .i64 0,.int .i64 0,.bool false,.int .u8 0])) (TD.mkStruct (l:=[(0,2),(1,3),(2,4),(3,6)]) (by kernel_rfl) (by kernel_rfl) (by kernel_rfl)) (by kernel_rfl) rfl rfl rfl)<|Tab.aj (TI.mk' (z:=(.string ByteArray.empty)) (show Tryz.prog.underlying 9=some (.string) by kernel_rfl) (by kernel_rfl) rfl rfl rfl)<|Tab.aj (TI.mk' (z:=(.string ByteArray.empty)) (show Tryz.prog.underlying 10=some (.string) by kernel_rfl) (by kernel_rfl) rfl rfl rfl)<|Tab.aj (TI.mk' (z:=(.string ByteArray.empty)) (show Tryz.prog.underlying 11=some (.string) by kernel_rfl) (by kernel_rfl) rfl rfl rfl)<|Tab.aj (TI.mk' (z:=(.int .u64 0)) (show Tryz.prog.underlying 12=some (.int .u64) by kernel_rfl) (by kernel_rfl) rfl rfl rfl)<|Tab.aj (TI.mk' (z:=(.pointer none)) (TD.ak (by kernel_rfl)) (by kernel_rfl) rfl rfl rfl)<|Tab.aj (TI.mk' (z:=(.pointer none)) (TD.ak (by kernel_rfl)) (by kernel_rfl) rfl rfl rfl)<|Tab.aj (TI.mk' (z:=(.pointer none)) (TD.ak (by kernel_rfl)) (by kernel_rfl) rfl rfl rfl)<|Tab.aj (TI.mk' (z:=(.nilIface)) (TD.ak (by kernel_rfl)) (by kernel_rfl) rfl rfl rfl)<|Tab.aj (TI.mk' (z:=(.int .i32 0)) (show Tryz.prog.underlying 21=some (.int .i32) by kernel_rfl) (by kernel_rfl) rfl rfl rfl)<|Tab.aj (TI.mk' (z:=(.slice none 0 0)) (show Tryz.prog.underlying 22=some (.slice 9) by kernel_rfl) (by kernel_rfl) rfl rfl rfl)<|Tab.aj (TI.mk' (z:=(.slice none 0 0)) (show Tryz.prog.underlying 23=some (.slice 108) by kernel_rfl) (by kernel_rfl) rfl rfl rfl)<|Tab.aj (TI.mk' (z:=(.slice none 0 0)) (show Tryz.prog.underlying 24=some (.slice 81) by kernel_rfl) (by kernel_rfl) rfl rfl rfl)<|Tab.aj (TI.mk' (z:=(.agg #[.int .i64 0,.slice none 0 0,.slice none 0 0,.slice none 0 0])) (TD.mkStruct (l:=[(0,3),(1,22),(2,23),(3,24)]) (by kernel_rfl) (by kernel_rfl) (by kernel_rfl)) (by kernel_rfl) rfl rfl rfl)<|Tab.aj (TI.mk' (z:=(.agg #[.int .i64 0,.slice none 0 0,.slice none 0 0,.slice none 0 0])) (TD.mkStruct (l:=[(0,3),(1,22),(2,23),(3,24)]) (by kernel_rfl) (by kernel_rfl) (by kernel_rfl)) (by kernel_rfl) rfl rfl rfl)<|Tab.aj (TI.mk' (z:=(.nilFunc)) (TD.ak (by kernel_rfl)) (by kernel_rfl) rfl rfl rfl)<|Tab.aj (TI.mk' (z:=(.nilFunc)) (TD.ak (by kernel_rfl)) (by kernel_rfl) rfl rfl rfl)<|Tab.aj (TI.mk' (z:=(.slice none 0 0)) (show Tryz.prog.underlying 29=some (.slice 3) by kernel_rfl) (by kernel_rfl) rfl rfl rfl)<|Tab.aj (TI.mk' (z:=(.int .i64 0)) (show Tryz.prog.underlying 30=some (.int .i64) by kernel_rfl) (by kernel_rfl) rfl rfl rfl)<|Tab.aj (TI.mk' (z:=(.nilFunc)) (TD.ak (by kernel_rfl)) (by kernel_rfl) rfl rfl rfl)<|Tab.aj (TI.mk' (z:=(.slice none 0 0)) (show Tryz.prog.underlying 33=some (.slice 89) by kernel_rfl) (by kernel_rfl) rfl rfl rfl)<|Tab.aj (TI.mk' (z:=(.slice none 0 0)) (show Tryz.prog.underlying 34=some (.slice 123) by kernel_rfl) (by kernel_rfl) rfl rfl rfl)<|Tab.aj (TI.mk' (z:=(.agg #[.int .i64 0,.slice none 0 0,.slice none 0 0,.slice none 0 0])) (TD.mkStruct (l:=[(0,3),(1,22),(2,33),(3,34)]) (by kernel_rfl) (by kernel_rfl) (by kernel_rfl)) (by kernel_rfl) rfl rfl rfl)<|Tab.aj (TI.mk' (z:=(.agg #[.int .i64 0,.slice none 0 0,.slice none 0 0,.slice none 0 0])) (TD.mkStruct (l:=[(0,3),(1,22),(2,33),(3,34)]) (by kernel_rfl) (by kernel_rfl) (by kernel_rfl)) (by kernel_rfl) rfl rfl rfl)<|Tab.aj (TI.mk' (z:=(.nilFunc)) (TD.ak (by kernel_rfl)) (by kernel_rfl) rfl rfl rfl)<|Tab.aj (TI.mk' (z:=(.nilFunc)) (TD.ak (by kernel_rfl)) (by kernel_rfl) rfl rfl rfl)<|Tab.aj (TI.mk' (z:=(.nilFunc)) (TD.ak (by kernel_rfl)) (by kernel_rfl) rfl rfl rfl)<|Tab.aj (TI.mk' (z:=(.slice none 0 0)) (show Tryz.prog.underlying 41=some (.slice 95) by kernel_rfl) (by kernel_rfl) rfl rfl rfl)<|Tab.aj (TI.mk' (z:=(.agg #[.int .i64 0,.slice none 0 0])) (TD.mkStruct (l:=[(0,3),(1,41)]) (by kernel_rfl) (by kernel_rfl) (by kernel_rfl)) (by kernel_rfl) rfl rfl rfl)<|Tab.aj (TI.mk' (z:=(.agg #[.int .i64 0,.slice none 0 0])) (TD.mkStruct (l:=[(0,3),(1,41)]) (by kernel_rfl) (by kernel_rfl) (by kernel_rfl)) (by kernel_rfl) rfl rfl rfl)<|Tab.aj (TI.mk' (z:=(.nilFunc)) (TD.ak (by kernel_rfl)) (by kernel_rfl) rfl rfl rfl)<|Tab.aj (TI.mk' (z:=(.nilFunc)) (TD.ak (by kernel_rfl)) (by kernel_rfl) rfl rfl rfl)<|Tab.aj (TI.mk' (z:=(.nilFunc)) (TD.ak (by kernel_rfl)) (by kernel_rfl) rfl rfl rfl)<|Tab.aj (TI.mk' (z:=(.nilFunc)) (TD.ak (by kernel_rfl)) (by kernel_rfl) rfl rfl rfl)<|Tab.aj (TI.mk' (z:=(.nilFunc)) (TD.ak (by kernel_rfl)) (by kernel_rfl) rfl rfl rfl)<|Tab.aj (TI.mk' (z:=(.nilFunc)) (TD.ak (by kernel_rfl)) (by kernel_rfl) rfl rfl rfl)<|Tab.aj (TI.mk' (z:=(.nilFunc)) (TD.ak (by kernel_rfl)) (by kernel_rfl) rfl rfl rfl)<|Tab.aj (TI.mk' (z:=(.nilFunc)) (TD.ak (by kernel_rfl)) (by kernel_rfl) rfl rfl rfl)<|Tab.aj (TI.mk' (z:=(.nilFunc)) (TD.ak (by kernel_rfl)) (by kernel_rfl) rfl rfl rfl)<|Tab.aj (TI.mk' (z:=(.nilFunc)) (TD.ak (by kernel_rfl)) (by kernel_rfl) rfl rfl rfl)<|Tab.aj (TI.mk' (z:=(.nilFunc)) (TD.ak (by kernel_rfl)) (by kernel_rfl) rfl rfl rfl)<|Tab.aj (TI.mk' (z:=(.nilFunc)) (TD.ak (by kernel_rfl)) (by kernel_rfl) rfl rfl rfl)<|Tab.aj (TI.mk' (z:=(.slice none 0 0)) (show Tryz.prog.underlying 62=some (.slice 72) by kernel_rfl) (by kernel_rfl) rfl rfl rfl)<|Tab.aj (TI.mk' (z:=(.nilFunc)) (TD.ak (by kernel_rfl)) (by kernel_rfl) rfl rfl rfl)<|Tab.aj (TI.mk' (z:=(.nilFunc)) (TD.ak (by kernel_rfl)) (by kernel_rfl) rfl rfl rfl)<|Tab.aj (TI.mk' (z:=(.nilFunc)) (TD.ak (by kernel_rfl)) (by kernel_rfl) rfl rfl rfl)<|Tab.aj (TI.mk' (z:=(.nilFunc)) (TD.ak (by kernel_rfl)) (by kernel_rfl) rfl rfl rfl)<|Tab.aj (TI.mk' (z:=(.nilFunc)) (TD.ak (by kernel_rfl)) (by kernel_rfl) rfl rfl rfl)<|Tab.aj (TI.mk' (z:=(.slice none 0 0)) (show Tryz.prog.underlying 72=some (.slice 4) by kernel_rfl) (by kernel_rfl) rfl rfl rfl)<|Tab.aj (TI.mk' (z:=(.nilFunc)) (TD.ak (by kernel_rfl)) (by kernel_rfl) rfl rfl rfl)<|Tab.aj (TI.mk' (z:=(.map none)) (show Tryz.prog.underlying 76=some (.map 3 4) by kernel_rfl) (by kernel_rfl) rfl rfl rfl)<|Tab.aj (TI.mk' (z:=(.slice none 0 0)) (show Tryz.prog.underlying 77=some (.slice 79) by kernel_rfl) (by kernel_rfl) rfl rfl rfl)<|Tab.aj (TI.mk' (z:=(.agg #[.int .i64 0,.int .i64 0,.slice none 0 0])) (TD.mkStruct (l:=[(0,3),(1,3),(2,77)]) (by kernel_rfl) (by kernel_rfl) (by kernel_rfl)) (by kernel_rfl) rfl rfl rfl)<|Tab.aj (TI.mk' (z:=(.agg #[.int .i64 0,.int .i64 0,.slice none 0 0])) (TD.mkStruct (l:=[(0,3),(1,3),(2,77)]) (by kernel_rfl) (by kernel_rfl) (by kernel_rfl)) (by kernel_rfl) rfl rfl rfl)<|Tab.aj (TI.mk' (z:=(.agg #[.slice none 0 0,.slice none 0 0,.int .i64 0,.int .i64 0,.slice none 0 0])) (TD.mkStruct (l:=[(0,29),(1,29),(2,79)]) (by kernel_rfl) (by kernel_rfl) (by kernel_rfl)) (by kernel_rfl) rfl rfl rfl)<|Tab.aj (TI.mk' (z:=(.agg #[.slice none 0 0,.slice none 0 0,.int .i64 0,.int .i64 0,.slice none 0 0])) (TD.mkStruct (l:=[(0,29),(1,29),(2,79)]) (by kernel_rfl) (by kernel_rfl) (by kernel_rfl)) (by kernel_rfl) rfl rfl rfl)<|Tab.aj (TI.mk' (z:=(.nilFunc)) (TD.ak (by kernel_rfl)) (by kernel_rfl) rfl rfl rfl)<|Tab.aj (TI.mk' (z:=(.nilFunc)) (TD.ak (by kernel_rfl)) (by kernel_rfl) rfl rfl rfl)<|Tab.aj (TI.mk' (z:=(.nilFunc)) (TD.ak (by kernel_rfl)) (by kernel_rfl) rfl rfl rfl)<|Tab.aj (TI.mk' (z:=(.slice none 0 0)) (show Tryz.prog.underlying 87=some (.slice 94) by kernel_rfl) (by kernel_rfl) rfl rfl rfl)<|Tab.aj (TI.mk' (z:=(.agg #[.slice none 0 0,.int .i64 0])) (TD.mkStruct (l:=[(0,87),(1,3)]) (by kernel_rfl) (by kernel_rfl) (by kernel_rfl)) (by kernel_rfl) rfl rfl rfl)<|Tab.aj (TI.mk' (z:=(.agg #[.slice none 0 0,.int .i64 0])) (TD.mkStruct (l:=[(0,87),(1,3)]) (by kernel_rfl) (by kernel_rfl) (by kernel_rfl)) (by kernel_rfl) rfl rfl rfl)<|Tab.aj (TI.mk' (z:=(.nilFunc)) (TD.ak (by kernel_rfl)) (by kernel_rfl) rfl rfl rfl)<|Tab.aj (TI.mk' (z:=(.nilFunc)) (TD.ak (by kernel_rfl)) (by kernel_rfl) rfl rfl rfl)<|Tab.aj (TI.mk' (z:=(.agg #[.int .i64 0,.bool false])) (TD.mkStruct (l:=[(0,3),(1,4)]) (by kernel_rfl) (by kernel_rfl) (by kernel_rfl)) (by kernel_rfl) rfl rfl rfl)<|Tab.aj (TI.mk' (z:=(.agg #[.int .i64 0,.bool false])) (TD.mkStruct (l:=[(0,3),(1,4)]) (by kernel_rfl) (by kernel_rfl) (by kernel_rfl)) (by kernel_rfl) rfl rfl rfl)<|Tab.aj (TI.mk' (z:=(.agg #[.slice none 0 0,.int .i64 0])) (TD.mkStruct (l:=[(0,87),(1,3)]) (by kernel_rfl) (by kernel_rfl) (by kernel_rfl)) (by kernel_rfl) rfl rfl rfl)<|Tab.aj (TI.mk' (z:=(.nilFunc)) (TD.ak (by kernel_rfl)) (by kernel_rfl) rfl rfl rfl)<|Tab.aj (TI.mk' (z:=(.nilFunc)) (TD.ak (by kernel_rfl)) (by kernel_rfl) rfl rfl rfl)<|Tab.aj (TI.mk' (z:=(.map none)) (show Tryz.prog.underlying 100=some (.map 3 3) by kernel_rfl) (by kernel_rfl) rfl rfl rfl)<|Tab.aj (TI.mk' (z:=(.nilFunc)) (TD.ak (by kernel_rfl)) (by kernel_rfl) rfl rfl rfl)<|Tab.aj (TI.mk' (z:=(.nilFunc)) (TD.ak (by kernel_rfl)) (by kernel_rfl) rfl rfl rfl)<|Tab.aj (TI.mk' (z:=(.nilFunc)) (TD.ak (by kernel_rfl)) (by kernel_rfl) rfl rfl rfl)<|Tab.aj (TI.mk' (z:=(.nilFunc)) (TD.ak (by kernel_rfl)) (by kernel_rfl) rfl rfl rfl)<|Tab.aj (TI.mk' (z:=(.agg #[.slice none 0 0,.int .i64 0])) (TD.mkStruct (l:=[(0,87),(1,3)]) (by kernel_rfl) (by kernel_rfl) (by kernel_rfl)) (by kernel_rfl) rfl rfl rfl)<|Tab.aj (TI.mk' (z:=(.nilFunc)) (TD.ak (by kernel_rfl)) (by kernel_rfl) rfl rfl rfl)<|Tab.aj (TI.mk' (z:=(.nilFunc)) (TD.ak (by kernel_rfl)) (by kernel_rfl) rfl rfl rfl)<|Tab.aj (TI.mk' (z:=(.nilFunc)) (TD.ak (by kernel_rfl)) (by kernel_rfl) rfl rfl rfl)<|Tab.aj (TI.mk' (z:=(.slice none 0 0)) (show Tryz.prog.underlying 112=some (.slice 117) by kernel_rfl) (by kernel_rfl) rfl rfl rfl)<|Tab.aj (TI.mk' (z:=(.slice none 0 0)) (show Tryz.prog.underlying 113=some (.slice 29) by kernel_rfl) (by kernel_rfl) rfl rfl rfl)<|Tab.aj (TI.mk' (z:=(.nilFunc)) (TD.ak (by kernel_rfl)) (by kernel_rfl) rfl rfl rfl)<|Tab.aj (TI.mk' (z:=(.agg #[.bool false,.bool false,.bool false,.bool false,.bool false,.bool false,.bool false,.bool false,.bool false,.bool false,.bool false,.bool false,.bool false,.bool false,.bool false,.bool false,.bool false,.bool false,.bool false,.bool false,.bool false,.bool false,.bool false,.bool false])) (show Tryz.prog.underlying 116=some (.array 24 4) by kernel_rfl) (by kernel_rfl) rfl rfl rfl)<|Tab.aj (TI.mk' (z:=(.agg #[.bool false,.bool false,.bool false,.bool false,.bool false,.bool false,.bool false,.bool false,.bool false,.bool false,.bool false,.bool false,.bool false,.bool false,.bool false,.bool false,.bool false,.bool false,.bool false,.bool false,.bool false,.bool false,.bool false,.bool false])) (show Tryz.prog.underlying 117=some (.array 24 4) by kernel_rfl) (by kernel_rfl) rfl rfl rfl)<|Tab.aj (TI.mk' (z:=(.nilFunc)) (TD.ak (by kernel_rfl)) (by kernel_rfl) rfl rfl rfl)<|Tab.aj (TI.mk' (z:=(.nilFunc)) (TD.ak (by kernel_rfl)) (by kernel_rfl) rfl rfl rfl)<|Tab.aj (TI.mk' (z:=(.nilFunc)) (TD.ak (by kernel_rfl)) (by kernel_rfl) rfl rfl rfl)<|Tab.aj (TI.mk' (z:=(.agg #[.slice none 0 0,.slice none 0 0,.int .i64 0,.int .i64 0,.slice none 0 0])) (TD.mkStruct (l:=[(0,29),(1,29),(2,79)]) (by kernel_rfl) (by kernel_rfl) (by kernel_rfl)) (by kernel_rfl) rfl rfl rfl)<|Tab.aj (TI.mk' (z:=(.slice none 0 0)) (show Tryz.prog.underlying 124=some (.slice 129) by kernel_rfl) (by kernel_rfl) rfl rfl rfl)<|Tab.aj (TI.mk' (z:=(.nilFunc)) (TD.ak (by kernel_rfl)) (by kernel_rfl) rfl rfl rfl)<|Tab.aj (TI.mk' (z:=(.nilFunc)) (TD.ak (by kernel_rfl)) (by kernel_rfl) rfl rfl rfl)<|Tab.aj (TI.mk' (z:=(.agg #[.slice none 0 0,.slice none 0 0])) (TD.mkStruct (l:=[(0,72),(1,29)]) (by kernel_rfl) (by kernel_rfl) (by kernel_rfl)) (by kernel_rfl) rfl rfl rfl)<|Tab.aj (TI.mk' (z:=(.agg #[.slice none 0 0,.slice none 0 0])) (TD.mkStruct (l:=[(0,72),(1,29)]) (by kernel_rfl) (by kernel_rfl) (by kernel_rfl)) (by kernel_rfl) rfl rfl rfl)<|Tab.aj (TI.mk' (z:=(.nilFunc)) (TD.ak (by kernel_rfl)) (by kernel_rfl) rfl rfl rfl)<|Tab.aj (TI.mk' (z:=(.nilFunc)) (TD.ak (by kernel_rfl)) (by kernel_rfl) rfl rfl rfl)<|Tab.aj (TI.mk' (z:=(.nilFunc)) (TD.ak (by kernel_rfl)) (by kernel_rfl) rfl rfl rfl)<|Tab.aj (TI.mk' (z:=(.nilFunc)) (TD.ak (by kernel_rfl)) (by kernel_rfl) rfl rfl rfl)<|Tab.aj (TI.mk' (z:=(.nilFunc)) (TD.ak (by kernel_rfl)) (by kernel_rfl) rfl rfl rfl)<|Tab.aj (TI.mk' (z:=(.nilFunc)) (TD.ak (by kernel_rfl)) (by kernel_rfl) rfl rfl rfl)<|Tab.aj (TI.mk' (z:=(.nilFunc)) (TD.ak (by kernel_rfl)) (by kernel_rfl) rfl rfl rfl)<|Tab.aj (TI.mk' (z:=(.nilFunc)) (TD.ak (by kernel_rfl)) (by kernel_rfl) rfl rfl rfl)<|Tab.aj (TI.mk' (z:=(.pointer none)) (TD.ak (by kernel_rfl)) (by kernel_rfl) rfl rfl rfl)<|Tab.aj (TI.mk' (z:=(.slice none 0 0)) (show Tryz.prog.underlying 141=some (.slice 5) by kernel_rfl) (by kernel_rfl) rfl rfl rfl)<|Tab.aj (TI.mk' (z:=(.agg #[.pointer none,.slice none 0 0])) (TD.mkStruct (l:=[(0,140),(1,141)]) (by kernel_rfl) (by kernel_rfl) (by kernel_rfl)) (by kernel_rfl) rfl rfl rfl)<|Tab.aj (TI.mk' (z:=(.agg #[.pointer none,.slice none 0 0])) (TD.mkStruct (l:=[(0,140),(1,141)]) (by kernel_rfl) (by kernel_rfl) (by kernel_rfl)) (by kernel_rfl) rfl rfl rfl)<|Tab.aj (TI.mk' (z:=(.nilIface)) (TD.ak (by kernel_rfl)) (by kernel_rfl) rfl rfl rfl)<|Tab.aj (TI.mk' (z:=(.nilIface)) (TD.ak (by kernel_rfl)) (by kernel_rfl) rfl rfl rfl)<|Tab.aj (TI.mk' (z:=(.nilFunc)) (TD.ak (by kernel_rfl)) (by kernel_rfl) rfl rfl rfl)<|Tab.aj (TI.mk' (z:=(.nilFunc)) (TD.ak (by kernel_rfl)) (by kernel_rfl) rfl rfl rfl)<|Tab.aj (TI.mk' (z:=(.nilFunc)) (TD.ak (by kernel_rfl)) (by kernel_rfl) rfl rfl rfl)<|Tab.aj (TI.mk' (z:=(.nilFunc)) (TD.ak (by kernel_rfl)) (by kernel_rfl) rfl rfl rfl)<|Tab.aj (TI.mk' (z:=(.nilFunc)) (TD.ak (by kernel_rfl)) (by kernel_rfl) rfl rfl rfl)<|Tab.aj (TI.mk' (z:=(.nilFunc)) (TD.ak (by kernel_rfl)) (by kernel_rfl) rfl rfl rfl)<|Tab.aj (TI.mk' (z:=(.string ByteArray.empty)) (show Tryz.prog.underlying 154=some (.string) by kernel_rfl) (by kernel_rfl) rfl rfl rfl)<|Tab.aj (TI.mk' (z:=(.nilFunc)) (TD.ak (by kernel_rfl)) (by kernel_rfl) rfl rfl rfl)<|Tab.aj (TI.mk' (z:=(.nilFunc)) (TD.ak (by kernel_rfl)) (by kernel_rfl) rfl rfl rfl)<|Tab.aj (TI.mk' (z:=(.nilFunc)) (TD.ak (by kernel_rfl)) (by kernel_rfl) rfl rfl rfl)<|Tab.aj (TI.mk' (z:=(.nilFunc)) (TD.ak (by kernel_rfl)) (by kernel_rfl) rfl rfl rfl)<|Tab.aj (TI.mk' (z:=(.nilFunc)) (TD.ak (by kernel_rfl)) (by kernel_rfl) rfl rfl rfl)<|Tab.aj (TI.mk' (z:=(.nilFunc)) (TD.ak (by kernel_rfl)) (by kernel_rfl) rfl rfl rfl)<|Tab.aj (TI.mk' (z:=(.nilFunc)) (TD.ak (by kernel_rfl)) (by kernel_rfl) rfl rfl rfl)<|Tab.aj (TI.mk' (z:=(.nilFunc)) (TD.ak (by kernel_rfl)) (by kernel_rfl) rfl rfl rfl)<|Tab.aj (TI.mk' (z:=(.nilFunc)) (TD.ak (by kernel_rfl)) (by kernel_rfl) rfl rfl rfl)<|Tab.aj (TI.mk' (z:=(.nilFunc)) (TD.ak (by kernel_rfl)) (by kernel_rfl) rfl rfl rfl)<|Tab.aj (TI.mk' (z:=(.nilFunc)) (TD.ak (by kernel_rfl)) (by kernel_rfl) rfl rfl rfl)<|Tab.aj (TI.mk' (z:=(.nilFunc)) (TD.ak (by kernel_rfl)) (by kernel_rfl) rfl rfl rfl)<|Tab.aj (TI.mk' (z:=(.nilFunc)) (TD.ak (by kernel_rfl)) (by kernel_rfl) rfl rfl rfl)<|Tab.aj (TI.mk' (z:=(.nilFunc)) (TD.ak (by kernel_rfl)) (by kernel_rfl) rfl rfl rfl)<|Tab.aj (TI.mk' (z:=(.nilFunc)) (TD.ak (by kernel_rfl)) (by kernel_rfl) rfl rfl rfl)<|Tab.aj (TI.mk' (z:=(.nilFunc)) (TD.ak (by kernel_rfl)) (by kernel_rfl) rfl rfl rfl)<|Tab.aj (TI.mk' (z:=(.nilFunc)) (TD.ak (by kernel_rfl)) (by kernel_rfl) rfl rfl rfl)<|Tab.aj (TI.mk' (z:=(.nilFunc)) (TD.ak (by kernel_rfl)) (by kernel_rfl) rfl rfl rfl)<|Tab.aj (TI.mk' (z:=(.nilFunc)) (TD.ak (by kernel_rfl)) (by kernel_rfl) rfl rfl rfl)<|Tab.aj (TI.mk' (z:=(.nilFunc)) (TD.ak (by kernel_rfl)) (by kernel_rfl) rfl rfl rfl)<|Tab.aj (TI.mk' (z:=(.nilFunc)) (TD.ak (by kernel_rfl)) (by kernel_rfl) rfl rfl rfl)<|Tab.aj (TI.mk' (z:=(.nilFunc)) (TD.ak (by kernel_rfl)) (by kernel_rfl) rfl rfl rfl)<|Tab.aj (TI.mk' (z:=(.nilFunc)) (TD.ak (by kernel_rfl)) (by kernel_rfl) rfl rfl rfl)<|Tab.aj (TI.mk' (z:=(.nilFunc)) (TD.ak (by kernel_rfl)) (by kernel_rfl) rfl rfl rfl)<|Tab.aj (TI.mk' (z:=(.nilFunc)) (TD.ak (by kernel_rfl)) (by kernel_rfl) rfl rfl rfl)<|Tab.aj (TI.mk' (z:=(.nilFunc)) (TD.ak (by kernel_rfl)) (by kernel_rfl) rfl rfl rfl)<|Tab.aj (TI.mk' (z:=(.nilFunc)) (TD.ak (by kernel_rfl)) (by kernel_rfl) rfl rfl rfl)<|Tab.aj (TI.mk' (z:=(.nilFunc)) (TD.ak (by kernel_rfl)) (by kernel_rfl) rfl rfl rfl)<|Tab.aj (TI.mk' (z:=(.nilFunc)) (TD.ak (by kernel_rfl)) (by kernel_rfl) rfl rfl rfl)<|Tab.aj (TI.mk' (z:=(.nilFunc)) (TD.ak (by kernel_rfl)) (by kernel_rfl) rfl rfl rfl)<|Tab.aj (TI.mk' (z:=(.agg #[.bool false,.bool false,.bool false,.bool false,.bool false,.bool false])) (show Tryz.prog.underlying 193=some (.array 6 4) by kernel_rfl) (by kernel_rfl) rfl rfl rfl)<|Tab.aj (TI.mk' (z:=(.agg #[.bool false,.bool false,.bool false,.bool false,.bool false,.bool false])) (show Tryz.prog.underlying 194=some (.array 6 4) by kernel_rfl) (by kernel_rfl) rfl rfl rfl)<|Tab.aj (TI.mk' (z:=(.nilFunc)) (TD.ak (by kernel_rfl)) (by kernel_rfl) rfl rfl rfl)<|Tab.aj (TI.mk' (z:=(.nilFunc)) (TD.ak (by kernel_rfl)) (by kernel_rfl) rfl rfl rfl)<|Tab.aj (TI.mk' (z:=(.nilFunc)) (TD.ak (by kernel_rfl)) (by kernel_rfl) rfl rfl rfl)<|Tab.aj (TI.mk' (z:=(.nilFunc)) (TD.ak (by kernel_rfl)) (by kernel_rfl) rfl rfl rfl)<|Tab.aj (TI.mk' (z:=(.pointer none)) (TD.ak (by kernel_rfl)) (by kernel_rfl) rfl rfl rfl)<|Tab.aj (TI.mk' (z:=(.agg #[.pointer none,.slice none 0 0,.slice none 0 0])) (TD.mkStruct (l:=[(0,143),(2,22)]) (by kernel_rfl) (by kernel_rfl) (by kernel_rfl)) (by kernel_rfl) rfl rfl rfl)<|Tab.aj (TI.mk' (z:=(.agg #[.pointer none,.slice none 0 0,.slice none 0 0])) (TD.mkStruct (l:=[(0,143),(2,22)]) (by kernel_rfl) (by kernel_rfl) (by kernel_rfl)) (by kernel_rfl) rfl rfl rfl)<|Tab.aj (TI.mk' (z:=(.nilFunc)) (TD.ak (by kernel_rfl)) (by kernel_rfl) rfl rfl rfl)<|Tab.aj (TI.mk' (z:=(.nilFunc)) (TD.ak (by kernel_rfl)) (by kernel_rfl) rfl rfl rfl)<|Tab.aj (TI.mk' (z:=(.nilFunc)) (TD.ak (by kernel_rfl)) (by kernel_rfl) rfl rfl rfl)<|Tab.aj (TI.mk' (z:=(.pointer none)) (TD.ak (by kernel_rfl)) (by kernel_rfl) rfl rfl rfl)<|Tab.aj (TI.mk' (z:=(.nilFunc)) (TD.ak (by kernel_rfl)) (by kernel_rfl) rfl rfl rfl)<|Tab.aj (TI.mk' (z:=(.nilFunc)) (TD.ak (by kernel_rfl)) (by kernel_rfl) rfl rfl rfl)<|Tab.aj (TI.mk' (z:=(.nilFunc)) (TD.ak (by kernel_rfl)) (by kernel_rfl) rfl rfl rfl)<|Tab.aj (TI.mk' (z:=(.nilFunc)) (TD.ak (by kernel_rfl)) (by kernel_rfl) rfl rfl rfl)<|Tab.aj (TI.mk' (z:=(.nilFunc)) (TD.ak (by kernel_rfl)) (by kernel_rfl) rfl rfl rfl)<|Tab.aj (TI.mk' (z:=(.nilFunc)) (TD.ak (by kernel_rfl)) (by kernel_rfl) rfl rfl rfl)<|Tab.aj (TI.mk' (z:=(.int .u64 0)) (show Tryz.prog.underlying 214=some (.int .u64) by kernel_rfl) (by kernel_rfl) rfl rfl rfl)<|Tab.aj (TI.mk' (z:=(.nilFunc)) (TD.ak (by kernel_rfl)) (by kernel_rfl) rfl rfl rfl)<|Tab.aj (TI.mk' (z:=(.nilFunc)) (TD.ak (by kernel_rfl)) (by kernel_rfl) rfl rfl rfl)<|Tab.aj (TI.mk' (z:=(.nilFunc)) (TD.ak (by kernel_rfl)) (by kernel_rfl) rfl rfl rfl)<|Tab.aj (TI.mk' (z:=(.nilFunc)) (TD.ak (by kernel_rfl)) (by kernel_rfl) rfl rfl rfl)<|Tab.aj (TI.mk' (z:=(.nilFunc)) (TD.ak (by kernel_rfl)) (by kernel_rfl) rfl rfl rfl)<|Tab.aj (TI.mk' (z:=(.nilFunc)) (TD.ak (by kernel_rfl)) (by kernel_rfl) rfl rfl rfl)<|Tab.aj (TI.mk' (z:=(.map none)) (show Tryz.prog.underlying 223=some (.map 117 4) by kernel_rfl) (by kernel_rfl) rfl rfl rfl)<|Tab.aj (TI.mk' (z:=(.nilFunc)) (TD.ak (by kernel_rfl)) (by kernel_rfl) rfl rfl rfl)<|Tab.aj (TI.mk' (z:=(.nilFunc)) (TD.ak (by kernel_rfl)) (by kernel_rfl) rfl rfl rfl)<|Tab.aj (TI.mk' (z:=(.pointer none)) (TD.ak (by kernel_rfl)) (by kernel_rfl) rfl rfl rfl)<|Tab.aj (TI.mk' (z:=(.nilFunc)) (TD.ak (by kernel_rfl)) (by kernel_rfl) rfl rfl rfl)<|Tab.aj (TI.mk' (z:=(.nilFunc)) (TD.ak (by kernel_rfl)) (by kernel_rfl) rfl rfl rfl)<|Tab.aj (TI.mk' (z:=(.nilFunc)) (TD.ak (by kernel_rfl)) (by kernel_rfl) rfl rfl rfl)<|Tab.aj (TI.mk' (z:=(.nilFunc)) (TD.ak (by kernel_rfl)) (by kernel_rfl) rfl rfl rfl)<|Tab.aj (TI.mk' (z:=(.nilFunc)) (TD.ak (by kernel_rfl)) (by kernel_rfl) rfl rfl rfl)<|Tab.aj (TI.mk' (z:=(.nilFunc)) (TD.ak (by kernel_rfl)) (by kernel_rfl) rfl rfl rfl)<|Tab.aj (TI.mk' (z:=(.slice none 0 0)) (show Tryz.prog.underlying 237=some (.slice 3) by kernel_rfl) (by kernel_rfl) rfl rfl rfl)<|Tab.aj (TI.mk' (z:=(.nilFunc)) (TD.ak (by kernel_rfl)) (by kernel_rfl) rfl rfl rfl)<|Tab.aj (TI.mk' (z:=(.nilFunc)) (TD.ak (by kernel_rfl)) (by kernel_rfl) rfl rfl rfl)<|Tab.aj (TI.mk' (z:=(.nilFunc)) (TD.ak (by kernel_rfl)) (by kernel_rfl) rfl rfl rfl)<|Tab.aj (TI.mk' (z:=(.nilFunc)) (TD.ak (by kernel_rfl)) (by kernel_rfl) rfl rfl rfl)<|Tab.aj (TI.mk' (z:=(.int .i64 0)) (show Tryz.prog.underlying 243=some (.int .i64) by kernel_rfl) (by kernel_rfl) rfl rfl rfl)<|Tab.aj (TI.mk' (z:=(.nilFunc)) (TD.ak (by kernel_rfl)) (by kernel_rfl) rfl rfl rfl)<|Tab.aj (TI.mk' (z:=(.nilFunc)) (TD.ak (by kernel_rfl)) (by kernel_rfl) rfl rfl rfl)<|Tab.aj (TI.mk' (z:=(.int .u32 0)) (show Tryz.prog.underlying 250=some (.int .u32) by kernel_rfl) (by kernel_rfl) rfl rfl rfl)<|Tab.aj (TI.mk' (z:=(.int .u64 0)) (show Tryz.prog.underlying 252=some (.int .u64) by kernel_rfl) (by kernel_rfl) rfl rfl rfl)<|Tab.aj (TI.mk' (z:=(.agg #[.int .u8 0,.int .u8 0,.int .u8 0,.int .u8 0,.int .u8 0,.int .u8 0,.int .u8 0,.int .u8 0,.int .u8 0,.int .u8 0,.int .u8 0,.int .u8 0,.int .u8 0,.int .u8 0,.int .u8 0,.int .u8 0,.int .u8 0,.int .u8 0,.int .u8 0,.int .u8 0,.int .u8 0,.int .u8 0,.int .u8 0,.int .u8 0])) (show Tryz.prog.underlying 253=some (.array 24 5) by kernel_rfl) (by kernel_rfl) rfl rfl rfl)<|Tab.aj (TI.mk' (z:=(.nilFunc)) (TD.ak (by kernel_rfl)) (by kernel_rfl) rfl rfl rfl)<|Tab.aj (TI.mk' (z:=(.nilFunc)) (TD.ak (by kernel_rfl)) (by kernel_rfl) rfl rfl rfl)<|Tab.aj (TI.mk' (z:=(.nilFunc)) (TD.ak (by kernel_rfl)) (by kernel_rfl) rfl rfl rfl)<|Tab.aj (TI.mk' (z:=(.agg #[.int .i64 0,.int .i64 0,.nilFunc])) (TD.mkStruct (l:=[(0,3),(1,3),(2,258)]) (by kernel_rfl) (by kernel_rfl) (by kernel_rfl)) (by kernel_rfl) rfl rfl rfl)<|Tab.aj (TI.mk' (z:=(.agg #[.int .i64 0,.int .i64 0,.nilFunc,.int .i64 0,.int .i64 0,.nilFunc,.int .i64 0,.int .i64 0,.nilFunc,.int .i64 0,.int .i64 0,.nilFunc,.int .i64 0,.int .i64 0,.nilFunc])) (show Tryz.prog.underlying 261=some (.array 5 260) by kernel_rfl) (by kernel_rfl) rfl rfl rfl)<|Tab.aj (TI.mk' (z:=(.int .u64 0)) (show Tryz.prog.underlying 265=some (.int .u64) by kernel_rfl) (by kernel_rfl) rfl rfl rfl)<|Tab.aj (TI.mk' (z:=(.nilFunc)) (TD.ak (by kernel_rfl)) (by kernel_rfl) rfl rfl rfl)<|Tab.aj (TI.mk' (z:=(.nilFunc)) (TD.ak (by kernel_rfl)) (by kernel_rfl) rfl rfl rfl)<|Tab.aj (TI.mk' (z:=(.pointer none)) (TD.ak (by kernel_rfl)) (by kernel_rfl) rfl rfl rfl)<|Tab.aj (TI.mk' (z:=(.agg #[.int .u64 0,.int .u64 0,.int .u64 0,.int .u64 0,.int .u64 0,.int .u64 0,.int .u64 0,.int .u64 0,.int .u64 0,.int .u64 0,.int .u64 0,.int .u64 0,.int .u64 0,.int .u64 0,.int .u64 0,.int .u64 0,.int .u64 0,.int .u64 0,.int .u64 0,.int .u64 0])) (show Tryz.prog.underlying 275=some (.array 20 252) by kernel_rfl) (by kernel_rfl) rfl rfl rfl)<|Tab.aj (TI.mk' (z:=(.agg #[.int .u8 0,.int .u8 0,.int .u8 0,.int .u8 0,.int .u8 0,.int .u8 0,.int .u8 0,.int .u8 0,.int .u8 0,.int .u8 0,.int .u8 0,.int .u8 0,.int .u8 0,.int .u8 0,.int .u8 0,.int .u8 0,.int .u8 0,.int .u8 0,.int .u8 0,.int .u8 0,.int .u8 0,.int .u8 0,.int .u8 0,.int .u8 0,.int .u8 0,.int .u8 0,.int .u8 0,.int .u8 0,.int .u8 0,.int .u8 0,.int .u8 0,.int .u8 0,.int .u8 0,.int .u8 0,.int .u8 0,.int .u8 0,.int .u8 0,.int .u8 0,.int .u8 0,.int .u8 0,.int .u8 0,.int .u8 0,.int .u8 0,.int .u8 0,.int .u8 0,.int .u8 0,.int .u8 0,.int .u8 0,.int .u8 0,.int .u8 0,.int .u8 0,.int .u8 0,.int .u8 0,.int .u8 0,.int .u8 0,.int .u8 0,.int .u8 0,.int .u8 0,.int .u8 0,.int .u8 0,.int .u8 0,.int .u8 0,.int .u8 0,.int .u8 0,.int .u8 0])) (show Tryz.prog.underlying 276=some (.array 65 5) by kernel_rfl) (by kernel_rfl) rfl rfl rfl)<|Tab.aj (TI.mk' (z:=(.nilFunc)) (TD.ak (by kernel_rfl)) (by kernel_rfl) rfl rfl rfl)<|Tab.aj (TI.mk' (z:=(.pointer none)) (TD.ak (by kernel_rfl)) (by kernel_rfl) rfl rfl rfl)<|Tab.aj (TI.mk' (z:=(.nilFunc)) (TD.ak (by kernel_rfl)) (by kernel_rfl) rfl rfl rfl)<|Tab.aj (TI.mk' (z:=(.nilFunc)) (TD.ak (by kernel_rfl)) (by kernel_rfl) rfl rfl rfl)<|Tab.aj (TI.mk' (z:=(.agg (List.replicate 256 (.bool false)).toArray)) (show Tryz.prog.underlying 286=some (.array 256 4) by kernel_rfl) (by kernel_rfl) rfl rfl rfl)<|Tab.aj (TI.mk' (z:=(.agg (List.replicate 256 (.bool false)).toArray)) (show Tryz.prog.underlying 287=some (.array 256 4) by kernel_rfl) (by kernel_rfl) rfl rfl rfl)<|Tab.aj (TI.mk' (z:=(.pointer none)) (TD.ak (by kernel_rfl)) (by kernel_rfl) rfl rfl rfl)<|Tab.aj (TI.mk' (z:=(.agg #[.int .u8 0,.int .u8 0,.int .u8 0,.int .u8 0,.int .u8 0,.int .u8 0,.int .u8 0,.int .u8 0,.int .u8 0,.int .u8 0,.int .u8 0,.int .u8 0,.int .u8 0,.int .u8 0,.int .u8 0,.int .u8 0,.int .u8 0,.int .u8 0,.int .u8 0,.int .u8 0,.int .u8 0,.int .u8 0,.int .u8 0,.int .u8 0,.int .u8 0,.int .u8 0,.int .u8 0,.int .u8 0,.int .u8 0,.int .u8 0,.int .u8 0,.int .u8 0])) (show Tryz.prog.underlying 292=some (.array 32 5) by kernel_rfl) (by kernel_rfl) rfl rfl rfl)<|Tab.aj (TI.mk' (z:=(.agg #[.int .u8 0,.int .u8 0,.int .u8 0,.int .u8 0,.int .u8 0,.int .u8 0,.int .u8 0,.int .u8 0,.int .u8 0,.int .u8 0,.int .u8 0,.int .u8 0,.int .u8 0,.int .u8 0,.int .u8 0,.int .u8 0,.int .u8 0,.int .u8 0,.int .u8 0,.int .u8 0,.int .u8 0,.int .u8 0,.int .u8 0,.int .u8 0,.int .u8 0,.int .u8 0,.int .u8 0,.int .u8 0,.int .u8 0,.int .u8 0,.int .u8 0,.int .u8 0,.int .u8 0,.int .u8 0,.int .u8 0,.int .u8 0,.int .u8 0,.int .u8 0,.int .u8 0,.int .u8 0,.int .u8 0,.int .u8 0,.int .u8 0,.int .u8 0,.int .u8 0,.int .u8 0,.int .u8 0,.int .u8 0,.int .u8 0,.int .u8 0,.int .u8 0,.int .u8 0,.int .u8 0,.int .u8 0,.int .u8 0,.int .u8 0,.int .u8 0,.int .u8 0,.int .u8 0,.int .u8 0,.int .u8 0,.int .u8 0,.int .u8 0,.int .u8 0])) (show Tryz.prog.underlying 293=some (.array 64 5) by kernel_rfl) (by kernel_rfl) rfl rfl rfl)<|Tab.aj (TI.mk' (z:=(.int .i32 0)) (show Tryz.prog.underlying 314=some (.int .i32) by kernel_rfl) (by kernel_rfl) rfl rfl rfl)<|Tab.aqL
theorem mixed:Tryz.prog.follows .mixedOrders=true:=by kernel_rfl
end Go.Sx.Pn
namespace Go.Sx.Pe
open Go Go.Proofs Go.Sx.Pn
theorem iE {a b:Int} (h:a=b):a=b:=h
theorem iL {a b:Nat} (h:a≤b):a≤b:=h
theorem iM {n k:Nat} (h:k<n):n-(k+1)<n-k:=by omega
theorem iN {k n:Nat} (h:k<n):(k:Int)<(n:Int):=by omega
theorem a4 {α β γ δ:Type} {a:α} {b:β} {c:γ} {d:δ} {p:Prop} (h:p):a=a∧b=b∧c=c∧d=d∧p:=⟨rfl,rfl,rfl,rfl,h⟩
theorem mxL {n s:Nat} (h:n≤10000000) (hs:s≤10000):n≤maxLen∧n*s≤140737488355328:=⟨by unfold maxLen;omega,aiK (Nat.mul_le_mul h hs) (by decide)⟩
theorem lt1 {p:Nat→Prop} (h:p 0) (k:Nat) (hk:k<1):p k:=by
 obtain rfl:k=0:=by omega
 exact h
def iP (n:Int):PV:=.val (.int .i64 n)
def bP (b:Bool):PV:=.val (.bool b)
def sP (s:List UInt8):PV:=.val (.string (strOf s))
def cP (c:UInt8):PV:=.val (.int .u8 (c.toNat:Int))
def iA (n:Int):SV:=.p false (.val (.int .i64 n))
def bA (b:Bool):SV:=.p false (.val (.bool b))
def sA (s:List UInt8):SV:=.p false (.val (.string (strOf s)))
def cA (c:UInt8):SV:=.p false (.val (.int .u8 (c.toNat:Int)))
def mq (l:List Int):PV:=.seq l.length (fun k=>[iP (l.getD k 0)])
def kW (l:List Bool):PV:=.seq l.length (fun k=>[bP (l.getD k false)])
def ssP (l:List (List UInt8)):PV:=.seq l.length (fun k=>[sP (l.getD k [])])
def isA (l:List Int):SV:=.p false (mq l)
def vZ (l:List Bool):SV:=.p false (kW l)
def ssA (l:List (List UInt8)):SV:=.p false (ssP l)
def bQ {α:Type} (args:α→List SV) (pre:α→Prop) (res:α→PV):Spec:={ A:=α,args:=args,objs:=fun _=>[],pre:=pre,res:=res,objs':=fun _=>[],fresh:=true,ro:=0 }
def iV {α:Type} (args:α→List SV) (pre:α→Prop) (res:α→PV):Spec:={ A:=α,args:=args,objs:=fun _=>[],pre:=pre,res:=res,objs':=fun _=>[],fresh:=false,ro:=0 }
theorem vM {P:Program} {f:Nat} {α:Type} {args:α→List SV} {pre:α→Prop} {res:α→PV} (h:aK P f (bQ args pre res)) (a:α) (hp:pre a) {r:PV} (e:res a=r) :
  aK P f (bQ (fun _:Unit=>args a) (fun _=>True) (fun _=>r)):=by
 subst e
 exact ⟨h.1,fun _ _ E vs w hg hh hA=>h.2 a hp E vs w hg hh hA⟩
theorem iw {P:Program} {f:Nat} {α:Type} {args:α→List SV} {pre:α→Prop} {res:α→PV} (h:aK P f (iV args pre res)) (a:α) (hp:pre a) {r:PV} (e:res a=r) :
  aK P f (iV (fun _:Unit=>args a) (fun _=>True) (fun _=>r)):=by
 subst e
 exact ⟨h.1,fun _ _ E vs w hg hh hA=>h.2 a hp E vs w hg hh hA⟩
theorem aU {α:Type} {l:List α} {k:Nat} (d:α) (hk:k<l.length):l.take (k+1)=l.take k++[l.getD k d]:=by
 rw[atg,abb hk,aa7,abb hk];rfl
theorem bH {α:Type} {l:List α} {k:Nat} (d:α) (h:k<l.length):l[k]?=some (l.getD k d):=by rw[aa7,abb h];rfl
structure Ex:Type where
 node ::
 op:Int
 idx:Int
 args:List Ex
mutual
def exC:Ex→List PV
 | .node o i l=>[iP o,iP i,.seq l.length (vk l)]
def vk:List Ex→Nat→List PV
 | [],_=>[]
 | x :: _,0=>exC x
 | _ :: l,k+1=>vk l k
end
def gU:Ex:=.node 0 0 []
def exF (l:List Ex) (k:Nat):List PV:=[iP (l.getD k gU).op,iP (l.getD k gU).idx,.seq (l.getD k gU).args.length (vk (l.getD k gU).args)]
def exK (x:Ex):List PV:=[iP x.op,iP x.idx,.seq x.args.length (exF x.args)]
def exP (x:Ex):PV:=.agg (exK x)
def exA (x:Ex):SV:=.p false (.agg (exK x))
theorem aq5 (o i:Int) (l:List Ex):exC (.node o i l)=[iP o,iP i,.seq l.length (vk l)]:=by rw[exC]
theorem afx:∀(l:List Ex) (k:Nat) (x:Ex),l[k]?=some x→vk l k=exC x
 | [],k,x,h=>by simp at h
 | y :: l,0,x,h=>by simp at h;subst h;rw[vk]
 | y :: l,k+1,x,h=>by rw[vk];exact afx l k x (by simpa using h)
theorem ala (x:Ex):exC x=[iP x.op,iP x.idx,.seq x.args.length (vk x.args)]:=by cases x;rw[aq5]
theorem exE (l:List Ex):∀k,k<l.length→vk l k=exF l k:=fun k hk=>by
 rw[afx l k _ (abb hk),ala]
 have:l.getD k gU=l[k]:=by rw[aa7,abb hk];rfl
 unfold exF;rw[this]
theorem arV (l:List Ex):∀k,k<l.length→exF l k=vk l k:=fun k hk=>(exE l k hk).symm
theorem ajs {l:List Ex} {k:Nat} (hk:k<l.length):l[k]?=some (l.getD k gU):=bH gU hk
mutual
def Ex.size:Ex→Nat
 | .node _ _ l=>sizes l+1
def sizes:List Ex→Nat
 | []=>0
 | x :: l=>x.size+sizes l
end
mutual
def Ex.deep:Ex→Nat
 | .node _ _ l=>jB l+1
def jB:List Ex→Nat
 | []=>0
 | x :: l=>max x.deep (jB l)
end
theorem Ex.size_eq (x:Ex):x.size=sizes x.args+1:=by cases x;rw[Ex.size]
theorem Ex.ail (x:Ex):x.deep=jB x.args+1:=by cases x;rw[Ex.deep]
theorem size_pos (x:Ex):0<x.size:=by rw[x.size_eq];omega
theorem am2 (x:Ex):0<x.deep:=by rw[x.ail];omega
theorem qc:∀{l:List Ex} {x:Ex},x∈l→x.size≤sizes l
 | [],x,h=>by simp at h
 | y :: l,x,h=>by
  rw[sizes]
  rcases ah5.1 h with rfl | h
  ·omega
  ·have:=qc h;omega
theorem y9:∀(l:List Ex),l.length≤sizes l
 | []=>by simp
 | x :: l=>by rw[sizes];have:=y9 l;have:=size_pos x;simp;omega
mutual
def cZ (d:Nat):Ex→List (Nat×Ex)
 | .node o i l=>(d,.node o i l) :: (if d≤16 then dI (d+1) l else [])
def dI (d:Nat):List Ex→List (Nat×Ex)
 | []=>[]
 | x :: l=>cZ d x++dI d l
end
def yP (y:Nat×Ex):List PV:=[iP y.1,exP y.2]
theorem tX (d:Nat):∀(a b:List Ex),dI d (a++b)=dI d a++dI d b
 | [],b=>by rw[dI];rfl
 | x :: a,b=>by rw[atm,dI,dI,tX d a b,asz]
def iq (d:Nat) (l:List Ex):List (Nat×Ex):=if d≤16 then dI (d+1) l else []
theorem lT (d:Nat) (o i:Int) (l:List Ex):cZ d (.node o i l)=(d,.node o i l) :: iq d l:=by rw[cZ];rfl
theorem akE {d:Nat} (hd:d≤16) {l:List Ex} {k:Nat} {x:Ex} (h:l[k]?=some x):iq d (l.take (k+1))=iq d (l.take k)++cZ (d+1) x:=by
 unfold iq
 rw[if_pos hd,if_pos hd,atg,h,tX]
 show _++dI (d+1) [x]=_
 rw[dI,dI,ap7]
def ar0 (l:Nat):Ob:=.cells 257 [.p false (.val (.func (.yield l) #[] #[]))]
def asf:Ob:=.cells 187 [.fn 204 [.own 0 0,.own 1 0]]
def af5 (n:Nat):acM:={ A:=Ex×Nat,args:=fun _ y=>[.p true (.agg (exK y.1)),iA y.2,.own 0 0,.own 1 0],objs:=fun l y=>[ar0 l,asf],pre:=fun y=>y.1.size≤n∧y.2≤17∧y.1.size≤1000000,ys:=fun y=>(cZ y.2 y.1).map yP }
theorem al5 (d:Nat) (x:Ex):((cZ d x).map yP)[0]?=some (yP (d,x)):=by cases x;rw[lT];rfl
theorem ag8 (d:Nat) (x:Ex):cZ d x=(d,x) :: iq d x.args:=by cases x;rw[lT]
theorem aj9 {d:Nat} (hd:d≤16) {l:List Ex} {k:Nat} (hk:k<l.length):iq d l=iq d (l.take k)++(cZ (d+1) (l.getD k gU)++iq d (l.drop (k+1))):=by
 have e:l=l.take k++(l.getD k gU :: l.drop (k+1)):=by
  have h1:l.drop k=l[k] :: l.drop (k+1):=anU hk
  have h2:l.getD k gU=l[k]:=by rw[aa7,abb hk];rfl
  rw[h2,←h1,asv]
 unfold iq
 rw[if_pos hd,if_pos hd,if_pos hd]
 conv=>lhs;rw[e]
 rw[tX,dI]
theorem am3 {d:Nat} (hd:d≤16) {x:Ex} {k:Nat} (hk:k<x.args.length) {i:Nat} {v:List PV} (h:((cZ (d+1) (x.args.getD k gU)).map yP)[i]?=some v) :
  ((cZ d x).map yP)[1+(iq d (x.args.take k)).length+i]?=some v:=by
 rw[ag8,aj9 hd hk,ak3,show 1+(iq d (x.args.take k)).length+i=(iq d (x.args.take k)).length+i+1 by omega,akI,arI,afK (by simp),ajh,asr,arI,aeM (abd.1 h).1]
 exact h
theorem agW:∀n,agy Tryz.prog 204 (af5 n)
 | 0=>by
  refine alI [] (Tb:=tab) mixed aA Tryz.func204 rfl rfl ?_
  rintro ⟨x,d⟩ ⟨h1,_⟩ L
  have:=size_pos x
  exact absurd h1 (by show ¬x.size≤0;omega)
 | n+1=>by
  have ih:=agW n
  refine alI [2000000+204] (Tb:=tab) mixed aA Tryz.func204 rfl rfl ?_
  rintro ⟨x,d⟩ ⟨h1,h2,h3⟩ L
  have hsz:sizes x.args+1≤n+1∧sizes x.args+1≤1000000:=by rw[←x.size_eq];exact ⟨h1,h3⟩
  have hd:d≤17:=h2
  refine ai rfl ?_
  refine ai rfl (ei (yP (d,x)) (ai (al5 d x) (ai ?_ (ai ?_ ?_))))
  ·exact (ai (ai trivial rfl) (ai trivial (ai rfl (ai rfl (ai rfl (fun _ _=>rfl))))))
  ·have hlen:=y9 x.args
   refine ei (bF.inv { X:=Nat,up:=fun k=>[(17,.s (iA k))],uo:=fun _=>[],inv:=fun k=>k≤x.args.length,meas:=fun k=>x.args.length-k,x0:=0,cnt:=fun k=>some (1+(iq d (x.args.take k)).length) }) ?_
   refine ai (ai (ai (by exact (a4 (ai rfl rfl))) (ai ?_ ?_)) ?_) (ai ?_ ?_)
   ·exact (ai (ai (fun _=>rfl) rfl) rfl)
   ·exact trivial
   ·show some (0+1)=some (1+(iq d (x.args.take 0)).length)
    unfold iq;split<;>simp[dI]
   ·exact ae4 _
   intro (k:Nat) (hk:k≤x.args.length)
   refine ah (p:=k<x.args.length) (av (by dsimp only;omega)) (fun hkl=>?_) (fun hkl=>?_)
   ·refine ai (ai (abq _) (by show (k:Int)<(x.args.length:Int);omega)) (ai rfl ?_)
    refine ah (p:=d≤16) (gD (by omega)) (fun hdd=>?_) (fun hdd=>?_)
    ·have hget:=ajs hkl
     have hy:=qc (acH hget)
     refine ei (af5 n) (ai ih (ei (x.args.getD k gU,d+1) (ei [0,1] (ai (ai rfl (ai rfl rfl)) (ai ?_ (ai ?_ (ai ?_ (ai ?_ (ai ?_ ?_)))))))))
     ·exact (ai (ai (iE (by simp only[zz,reduceCtorEq])) (ai (iE (by simp only[zz,reduceCtorEq])) (ai rfl (exE _)))) (ai (aO (by omega)) (ai (ai rfl rfl) (ai rfl rfl))))
     ·exact (ai (ai rfl rfl) (ai rfl (ai rfl (ai (ai rfl rfl) (ai rfl rfl)))))
     ·exact ⟨by show (x.args.getD k gU).size≤n;omega,by show d+1≤17;omega,by show (x.args.getD k gU).size≤1000000;omega⟩
     ·exact fun i vs hi=>am3 hdd hkl hi
     ·refine ei ((k+1)) (ai (ai rfl rfl) (ai (ai ?_ ?_) (ai ?_ ?_)))
      ·exact (ai rfl (ai (ai rfl rfl) (ai (ai rfl rfl) (ai (ai (ai (fun _=>rfl) (aO (by omega))) rfl) trivial))))
      ·show some (1+(iq d (x.args.take k)).length+((cZ (d+1) (x.args.getD k gU)).map yP).length)=some (1+(iq d (x.args.take (k+1))).length)
       rw[akE hdd hget,ajh,aas,asO]
      ·show k+1≤x.args.length;omega
      ·show x.args.length-(k+1)<x.args.length-k;omega
     ·exact rfl
    ·refine ei ((k+1)) (ai (ai rfl rfl) (ai (ai ?_ ?_) (ai ?_ ?_)))
     ·exact (ai rfl (ai (ai rfl rfl) (ai (ai rfl rfl) (ai (ai (ai (fun _=>rfl) (aO (by omega))) rfl) trivial))))
     ·show some (1+(iq d (x.args.take k)).length)=some (1+(iq d (x.args.take (k+1))).length)
      unfold iq;rw[if_neg hdd,if_neg hdd]
     ·show k+1≤x.args.length;omega
     ·show x.args.length-(k+1)<x.args.length-k;omega
   ·obtain rfl:k=x.args.length:=by omega
    refine ai rfl ?_
    show 1+(iq d (x.args.take x.args.length)).length=((cZ d x).map yP).length
    rw[aga,ag8,ak3,ait,ajh,Nat.add_comm]
  ·exact rfl
def preS:vL:={ A:=Ex,capt:=fun x=>[.pt (exK x) 0],pre:=fun x=>x.size≤1000000,xs:=fun x=>(cZ 1 x).map yP }
theorem afO:aj4 Tryz.prog 203 preS:=by
 refine aqH [2000000+204] (Tb:=tab) mixed aA Tryz.func203 rfl rfl ?_
 intro (x:Ex) hpre
 refine ai rfl ?_
 intro L
 refine ei (af5 x.size) (ai (agW x.size) (ei (x,1) (ei [0,1] (ai (ai rfl (ai rfl rfl)) (ai ?_ (ai ?_ (ai ?_ (ai ?_ (ai ?_ ?_)))))))))
 ·exact (ai (ai rfl (ai rfl (ai rfl (fun _ _=>rfl)))) (ai (iE (by simp only[zz,reduceCtorEq];rfl)) (ai (ai rfl rfl) (ai rfl rfl))))
 ·exact (ai (ai rfl rfl) (ai rfl (ai rfl (ai (ai rfl rfl) (ai rfl rfl)))))
 ·exact ⟨afM _,by show 1≤17;omega,hpre⟩
 ·intro i vs hi
  show ((cZ 1 x).map yP)[0+i]?=some vs
  rw[agC];exact hi
 ·refine ai trivial ?_
  show 0+((cZ 1 x).map yP).length=((cZ 1 x).map yP).length
  rw[agC]
 ·exact ai trivial trivial
def ari:Spec:=iV (fun x:Ex=>[exA x]) (fun _=>True) (fun x=>.fn 203 [.pt (exK x) 0])
theorem akL:aK Tryz.prog 171 ari:=by
 refine aX (Tb:=tab) mixed aA Tryz.func171 rfl rfl ?_
 rintro (x:Ex) hpre
 refine ai (ai rfl (ai rfl rfl)) ?_
 refine ai (ai nof ?_) trivial
 exact (ai rfl rfl)
def wO (x:Ex):Option (Nat×Nat):=if x.size≤256∧x.deep≤16 then some (x.size,x.deep) else none
def mR (x:Ex):PV:=match wO x with
 | some (n,d)=>.tup [iP n,iP d,bP true]
 | none=>.tup [iP 0,iP 0,bP false]
def maxD (l:List (Nat×Ex)):Nat:=l.foldl (fun m y=>max m y.1) 0
theorem al0 (l:List (Nat×Ex)) (y:Nat×Ex):maxD (l++[y])=max (maxD l) y.1:=by unfold maxD;rw[asM];rfl
mutual
theorem adV:∀(x:Ex) (d:Nat),x.deep+d≤17→(cZ d x).length=x.size
 | .node o i l,d,h=>by
  have h1:jB l+1+d≤17:=by rw[Ex.ail] at h;exact h
  rw[lT,ait,Ex.size]
  unfold iq
  rw[if_pos (by omega),ag7 l (d+1) (by omega)]
theorem ag7:∀(l:List Ex) (d:Nat),jB l+d≤17→(dI d l).length=sizes l
 | [],d,h=>by rw[dI,sizes];rfl
 | x :: l,d,h=>by
  rw[jB] at h
  rw[dI,sizes,aas,adV x d (by omega),ag7 l d (by omega)]
end
theorem foldl_max (l:List (Nat×Ex)):∀m,(∀y∈l,y.1≤l.foldl (fun m y=>max m y.1) m)∧m≤l.foldl (fun m y=>max m y.1) m∧(∀M,m≤M→(∀y∈l,y.1≤M)→l.foldl (fun m y=>max m y.1) m≤M):=by
 induction l with
 | nil=>intro m;simp
 | cons x l ih=>
  intro m
  obtain ⟨h1,h2,h3⟩:=ih (max m x.1)
  refine ⟨fun y hy=>?_,?_,fun M hm hM=>?_⟩
  ·rcases ah5.1 hy with rfl | hy
   ·show y.1≤l.foldl _ (max m y.1)
    exact aiK (Nat.le_max_right _ _) h2
   ·exact h1 y hy
  ·exact aiK (Nat.le_max_left _ _) h2
  ·exact h3 M (by have:=hM x (by simp);omega) fun y hy=>hM y (by simp[hy])
theorem maxD_eq {l:List (Nat×Ex)} {M:Nat} (h1:∀z∈l,z.1≤M) (h2:∃z∈l,z.1=M):maxD l=M:=by
 obtain ⟨g1,g2,g3⟩:=foldl_max l 0
 obtain ⟨z,hz,rfl⟩:=h2
 exact Nat.le_antisymm (g3 _ (ae4 _) h1) (g1 z hz)
mutual
theorem ahA:∀(x:Ex) (d:Nat) (z:Nat×Ex),z∈cZ d x→z.1+1≤x.deep+d
 | .node o i l,d,z,h=>by
  rw[lT] at h
  rw[Ex.deep]
  rcases ah5.1 h with rfl | h
  ·show d+1≤_;omega
  ·unfold iq at h
   split at h
   ·have:=ajf l (d+1) z h;omega
   ·simp at h
theorem ajf:∀(l:List Ex) (d:Nat) (z:Nat×Ex),z∈dI d l→z.1+1≤jB l+d
 | [],d,z,h=>by rw[dI] at h;simp at h
 | x :: l,d,z,h=>by
  rw[dI] at h
  rw[jB]
  rcases ahi.1 h with h | h
  ·have:=ahA x d z h;omega
  ·have:=ajf l d z h;omega
end
mutual
theorem ahb:∀(x:Ex) (d e:Nat),d≤e→e≤17→e+1≤x.deep+d→∃z∈cZ d x,z.1=e
 | .node o i l,d,e,h1,h2,h3=>by
  rw[Ex.deep] at h3
  rw[lT]
  by_cases he:d=e
  ·exact ⟨_,an0,he⟩
  ·obtain ⟨z,hz,hz2⟩:=air l (d+1) e (by omega) h2 (by omega)
   refine ⟨z,aoc _ ?_,hz2⟩
   unfold iq;rw[if_pos (by omega)];exact hz
theorem air:∀(l:List Ex) (d e:Nat),d≤e→e≤17→e+1≤jB l+d→∃z∈dI d l,z.1=e
 | [],d,e,h1,h2,h3=>by rw[jB] at h3;omega
 | x :: l,d,e,h1,h2,h3=>by
  rw[jB] at h3
  rw[dI]
  by_cases hx:e+1≤x.deep+d
  ·obtain ⟨z,hz,hz2⟩:=ahb x d e h1 h2 hx
   exact ⟨z,List.mem_append_left _ hz,hz2⟩
  ·obtain ⟨z,hz,hz2⟩:=air l d e h1 h2 (by omega)
   exact ⟨z,ato _ hz,hz2⟩
end
theorem ahe (x:Ex):(∀z∈cZ 1 x,z.1≤16)↔x.deep≤16:=by
 constructor
 ·intro h
  refine Classical.byContradiction fun hn=>?_
  obtain ⟨z,hz,he⟩:=ahb x 1 17 (by omega) (by omega) (by omega)
  have:=h z hz;omega
 ·intro h z hz
  have:=ahA x 1 z hz;omega
theorem ae2 {x:Ex} (h1:(cZ 1 x).length≤256) (h2:∀z∈cZ 1 x,z.1≤16):wO x=some ((cZ 1 x).length,maxD (cZ 1 x)):=by
 have hd:=(ahe x).1 h2
 have hl:=adV x 1 (by omega)
 have hm:maxD (cZ 1 x)=x.deep:=maxD_eq (fun z hz=>by have:=ahA x 1 z hz;omega) (ahb x 1 x.deep (am2 x) (by omega) (by omega))
 unfold wO
 rw[if_pos ⟨by omega,hd⟩,hl,hm]
theorem aeG {x:Ex} (h:256<(cZ 1 x).length∨∃z∈cZ 1 x,16<z.1):wO x=none:=by
 unfold wO
 rw[if_neg]
 rintro ⟨h1,h2⟩
 rcases h with h | ⟨z,hz,h⟩
 ·have:=adV x 1 (by omega);omega
 ·have:=(ahe x).2 h2 z hz;omega
theorem akY {l:List (Nat×Ex)} {k:Nat} {vs:List PV} (h:(l.map yP)[k]?=some vs):∃d x,l[k]?=some (d,x)∧vs=[iP d,exP x]:=by
 rw[ais] at h
 cases hc:l[k]? with
 | none=>rw[hc] at h;cases h
 | some y=>
  rw[hc] at h
  simp only[alC,Option.some.injEq] at h
  exact ⟨y.1,y.2,rfl,h.symm⟩
theorem alL {l:List (Nat×Ex)}:∀v∈l.map yP,v.length=2:=fun v hv=>by
 obtain ⟨y,_,rfl⟩:=aq4.1 hv;rfl
def measS:Spec:=bQ (fun x:Ex=>[exA x]) (fun x=>x.size≤1000000) mR
theorem ai6:aK Tryz.prog 170 measS:=by
 refine aX (Tb:=tab) mixed aA Tryz.func170 rfl rfl ?_
 rintro (x:Ex) hpre
 refine ai (ai rfl (ai rfl rfl)) ?_
 refine ei _ (ai (akL) (ei (x) (ei [] (ai (a4 (ai (fun _=>Or.inl rfl) (ai nof (Or.inl rfl)))) (ai (by exact (ai rfl (ai rfl (ai rfl (fun _ _=>rfl))))) (ai trivial (ai (trivial) ?_)))))))
 refine ai (ai rfl rfl) (ei preS (ai afO (ei x (ai ?_ (ai hpre (ai alL (ei { X:=Nat,uo:=fun k=>[⟨4,3,[.s (iA k)]⟩,⟨5,3,[.s (iA (maxD ((cZ 1 x).take k):Nat))]⟩],inv:=fun k y=>y=k∧k≤256∧∀z∈(cZ 1 x).take k,z.1≤16,x0:=0 } (ai ?_ (ai ?_ (ai ?_ (ai ?_ ?_)))))))))))
 ·exact (ai rfl rfl)
 ·exact (ai rfl (ai rfl (ai rfl rfl)))
 ·exact (ai (ai (ai (fun _=>rfl) rfl) rfl) (ai (ai (ai (fun _=>rfl) rfl) rfl) trivial))
 ·exact ⟨rfl,ae4 _,by simp⟩
 ·rintro k (y:Nat) vs ⟨hy,hk,hall⟩ hvs
  subst hy
  obtain ⟨d,z,hg,rfl⟩:=akY hvs
  have hs:(cZ 1 x).take (y+1)=(cZ 1 x).take y++[(d,z)]:=by rw[atg,hg];rfl
  have hyl:y<(cZ 1 x).length:=(abd.1 hg).1
  have hw:IntKind.i64.wrap ((y:Int)+1)=((y+1:Nat):Int):=aO (by omega)
  refine ah (p:=256<y+1) (by exact av (by rw[hw];omega)) (fun h1=>?_) (fun h1=>?_)
  ·refine ai (ai (fun _=>(by exact (ai trivial (ai trivial trivial)))) ?_) trivial
   show aB _ (mR x)
   rw[mR,aeG (.inl (by omega))]
   exact (ai rfl (ai rfl rfl))
  refine ah (p:=16<d) (av (by omega)) (fun h2=>?_) (fun h2=>?_)
  ·refine ai (ai (fun _=>(by exact (ai trivial (ai trivial trivial)))) ?_) trivial
   show aB _ (mR x)
   rw[mR,aeG (.inr ⟨_,acH hg,h2⟩)]
   exact (ai rfl (ai rfl rfl))
  refine ei (y+1) (ai rfl (ai (ai (ai rfl rfl) (ai (ai rfl rfl) ?_)) ?_))
  ·refine ai ?_ (ai ?_ trivial)
   ·exact (ai (ai (fun _=>rfl) (aO (by omega))) rfl)
   ·refine ai (ai nof ?_) rfl
    show (if (d:Int)>_ then (d:Int) else _)=((maxD ((cZ 1 x).take (y+1)):Nat):Int)
    rw[hs,al0]
    show (if (d:Int)>((maxD ((cZ 1 x).take y):Nat):Int) then (d:Int) else _)=((max _ d:Nat):Int)
    split<;>omega
  ·refine ⟨rfl,by omega,fun w hw=>?_⟩
   rw[hs] at hw
   rcases ahi.1 hw with hw | hw
   ·exact hall w hw
   ·simp at hw;subst hw;show d≤16;omega
 ·rintro (y:Nat) ⟨hy,hk,hall⟩
  have hl:(preS.xs x).length=(cZ 1 x).length:=ajh _
  rw[hl] at hy hk hall
  subst hy
  rw[aga] at hall
  refine ei (.one 0 (.alt 1 (.one 2 (.one 3 (.one 4 .done))) (.alt 2 (.one 1 (.one 3 (.one 4 .done))) .stop))) (ai (by kernel_rfl) ?_)
  refine ai ?_ (ai ?_ trivial)
  ·refine ai (ai (fun _=>(by exact (ai trivial (ai trivial trivial)))) ?_) trivial
   show aB _ (mR x)
   rw[mR,ae2 hk hall]
   refine (ai rfl (ai ?_ rfl))
   ·show ((maxD ((cZ 1 x).take (cZ 1 x).length):Nat):Int)=_
    rw[aga]
  ·refine ai (ai (fun _=>(by exact (ai trivial (ai trivial trivial)))) ?_) trivial
   show aB _ (mR x)
   rw[mR,ae2 hk hall]
   refine (ai rfl (ai ?_ rfl))
   ·show ((maxD ((cZ 1 x).take (cZ 1 x).length):Nat):Int)=_
    rw[aga]
def nE (o:Int):Nat:=if o=2 then 1 else if o=3∨o=4 then 2 else 0
def aaY (o:Int):Nat:=if o=2 then 1 else if o=3∨o=4 then 256 else 0
def pX (o n:Int):Int:=if o=0 then 1 else if o=1 then n-1 else 0
def aV (x:Ex) (n:Int):Int:=
 if x.op<0∨5≤x.op then 1 else if x.args.length<nE x.op∨aaY x.op<x.args.length then 3 else if x.idx<0∨pX x.op n<x.idx then 2 else 0
def evC (v:Bool):PV:=.fn 228 [.pt [bP v] 0]
def shC:List PV:=[iP 0,iP 0,.val .nilFunc,iP 0,iP 0,.val .nilFunc,iP 1,iP 1,evC false,iP 2,iP 256,evC true,iP 2,iP 256,.fn 221 []]
def aqF:Spec:=bQ (fun v:Bool=>[bA v]) (fun _=>True) (fun v=>evC v)
theorem agD:aK Tryz.prog 220 aqF:=by
 refine aX (Tb:=tab) mixed aA Tryz.func220 rfl rfl ?_
 rintro (v:Bool) hpre
 refine ai (ai rfl (ai rfl rfl)) ?_
 refine ai (ai (fun _=>trivial) ?_) trivial
 exact (ai rfl rfl)
def apn:Spec:=bQ (fun _:Unit=>[]) (fun _=>True) (fun _=>.agg shC)
theorem jD:aK Tryz.prog 205 apn:=by
 refine aX (Tb:=tab) mixed aA Tryz.func205 rfl rfl ?_
 rintro ⟨⟩ hpre
 refine ai (ai rfl (ai rfl rfl)) ?_
 refine ei _ (ai (agD) (ei (false) (ei [] (ai (a4 (ai (fun _=>Or.inl rfl) (ai nof (Or.inl rfl)))) (ai (by exact rfl) (ai trivial (ai (trivial) ?_)))))))
 refine ei _ (ai (agD) (ei (true) (ei [] (ai (a4 (ai (fun _=>Or.inl rfl) (ai nof (Or.inl rfl)))) (ai (by exact rfl) (ai trivial (ai (trivial) ?_)))))))
 refine ai (ai (fun _=>(by exact (ai trivial (ai trivial (ai trivial (ai trivial (ai trivial (ai trivial (ai trivial (ai trivial (ai trivial (ai trivial (ai trivial (ai trivial (ai trivial (ai trivial trivial)))))))))))))))) ?_) trivial
 exact (ai rfl (ai rfl (ai rfl (ai rfl (ai rfl (ai rfl (ai rfl (ai rfl (ai (ai rfl rfl) (ai rfl (ai rfl (ai (ai rfl rfl) (ai rfl (ai rfl (ai rfl rfl)))))))))))))))
def arF:Spec:=bQ (fun y:Ex×Int=>[exA y.1,iA y.2]) (fun y=>y.1.args.length≤1000000∧0≤y.2∧y.2≤256) (fun y=>iP (aV y.1 y.2))
theorem aoL:aK Tryz.prog 172 arF:=by
 refine aX (Tb:=tab) mixed aA Tryz.func172 rfl rfl ?_
 rintro ⟨⟨o,i,l⟩,n⟩ hpre
 refine ai (ai rfl (ai rfl rfl)) ?_
 obtain ⟨hl,hn1,hn2⟩:=hpre
 have hl:l.length≤1000000:=hl
 have hn1:0≤n:=hn1
 have hn2:n≤256:=hn2
 refine ah (p:=o<0) (av Iff.rfl) (fun h1=>?_) (fun h1=>?_)
 ·refine ai (ai (fun _=>trivial) ?_) trivial
  show aB _ (iP (aV (.node o i l) n))
  rw[aV,if_pos (.inl h1)]
  exact rfl
 refine ah (p:=5≤o) (gD Iff.rfl) (fun h2=>?_) (fun h2=>?_)
 ·refine ai (ai (fun _=>trivial) ?_) trivial
  show aB _ (iP (aV (.node o i l) n))
  rw[aV,if_pos (.inr h2)]
  exact rfl
 have hA:aV (.node o i l) n=if l.length<nE o∨aaY o<l.length then 3 else if i<0∨pX o n<i then 2 else 0:=by
  unfold aV
  rw[if_neg (by show ¬(o<0∨5≤o);omega)]
 have ho:o=0∨o=1∨o=2∨o=3∨o=4:=by omega
 rcases ho with rfl | rfl | rfl | rfl | rfl
 ·refine ei (.one 1 (.one 2 (.alt 0 (.one 3 (.one 4 (.one 5 .done))) (.alt 4 (.one 0 (.one 3 (.one 5 .done))) .stop)))) (ai (by kernel_rfl) ?_)
  refine ai ?_ (ai ?_ trivial)
  ·refine ei _ (ai (jD) (ei (()) (ei [] (ai (a4 (ai (fun _=>Or.inl rfl) (ai nof (Or.inl rfl)))) (ai (by exact trivial) (ai trivial (ai (trivial) ?_)))))))
   refine ai (ai (by show (0:Int)≤0;decide) (by show (0:Int)<5;decide)) ?_
   have hA:aV (.node 0 i l) n=if l.length<0∨0<l.length then 3 else if i<0∨1<i then 2 else 0:=hA
   refine ah (p:=0<l.length) (av (by dsimp only;omega)) (fun h4=>?_) (fun h4=>?_)
   ·refine ai (ai (fun _=>trivial) ?_) trivial
    show aB _ (iP (aV (.node 0 i l) n))
    rw[hA,if_pos (.inr h4)]
    exact rfl
   rw[if_neg (fun h=>h.elim (ai8 _) h4)] at hA
   refine ah (p:=i<0) (av Iff.rfl) (fun h5=>?_) (fun h5=>?_)
   ·refine ai (ai (fun _=>trivial) ?_) trivial
    show aB _ (iP (aV (.node 0 i l) n))
    rw[hA,if_pos (.inl h5)]
    exact rfl
   refine ah (p:=1<i) (by first | exact av Iff.rfl | exact av (by rw[mJ (n:=n-1) (by omega) (by omega)])) (fun h6=>?_) (fun h6=>?_)
   ·refine ai (ai (fun _=>trivial) ?_) trivial
    show aB _ (iP (aV (.node 0 i l) n))
    rw[hA,if_pos (.inr h6)]
    exact rfl
   ·refine ai (ai (fun _=>trivial) ?_) trivial
    show aB _ (iP (aV (.node 0 i l) n))
    rw[hA,if_neg (fun h=>h.elim h5 h6)]
    exact rfl
  ·refine ei _ (ai (jD) (ei (()) (ei [] (ai (a4 (ai (fun _=>Or.inl rfl) (ai nof (Or.inl rfl)))) (ai (by exact trivial) (ai trivial (ai (trivial) ?_)))))))
   refine ai (ai (by show (0:Int)≤0;decide) (by show (0:Int)<5;decide)) ?_
   have hA:aV (.node 0 i l) n=if l.length<0∨0<l.length then 3 else if i<0∨1<i then 2 else 0:=hA
   refine ah (p:=0<l.length) (av (by dsimp only;omega)) (fun h4=>?_) (fun h4=>?_)
   ·refine ai (ai (fun _=>trivial) ?_) trivial
    show aB _ (iP (aV (.node 0 i l) n))
    rw[hA,if_pos (.inr h4)]
    exact rfl
   rw[if_neg (fun h=>h.elim (ai8 _) h4)] at hA
   refine ah (p:=i<0) (av Iff.rfl) (fun h5=>?_) (fun h5=>?_)
   ·refine ai (ai (fun _=>trivial) ?_) trivial
    show aB _ (iP (aV (.node 0 i l) n))
    rw[hA,if_pos (.inl h5)]
    exact rfl
   refine ah (p:=1<i) (by first | exact av Iff.rfl | exact av (by rw[mJ (n:=n-1) (by omega) (by omega)])) (fun h6=>?_) (fun h6=>?_)
   ·refine ai (ai (fun _=>trivial) ?_) trivial
    show aB _ (iP (aV (.node 0 i l) n))
    rw[hA,if_pos (.inr h6)]
    exact rfl
   ·refine ai (ai (fun _=>trivial) ?_) trivial
    show aB _ (iP (aV (.node 0 i l) n))
    rw[hA,if_neg (fun h=>h.elim h5 h6)]
    exact rfl
 ·refine ei (.one 1 (.one 2 (.alt 0 (.one 3 (.one 4 (.one 5 .done))) (.alt 4 (.one 0 (.one 3 (.one 5 .done))) .stop)))) (ai (by kernel_rfl) ?_)
  refine ai ?_ (ai ?_ trivial)
  ·refine ei _ (ai (jD) (ei (()) (ei [] (ai (a4 (ai (fun _=>Or.inl rfl) (ai nof (Or.inl rfl)))) (ai (by exact trivial) (ai trivial (ai (trivial) ?_)))))))
   refine ai (ai (by show (0:Int)≤1;decide) (by show (1:Int)<5;decide)) ?_
   have hA:aV (.node 1 i l) n=if l.length<0∨0<l.length then 3 else if i<0∨(n-1)<i then 2 else 0:=hA
   refine ah (p:=0<l.length) (av (by dsimp only;omega)) (fun h4=>?_) (fun h4=>?_)
   ·refine ai (ai (fun _=>trivial) ?_) trivial
    show aB _ (iP (aV (.node 1 i l) n))
    rw[hA,if_pos (.inr h4)]
    exact rfl
   rw[if_neg (fun h=>h.elim (ai8 _) h4)] at hA
   refine ah (p:=i<0) (av Iff.rfl) (fun h5=>?_) (fun h5=>?_)
   ·refine ai (ai (fun _=>trivial) ?_) trivial
    show aB _ (iP (aV (.node 1 i l) n))
    rw[hA,if_pos (.inl h5)]
    exact rfl
   refine ah (p:=(n-1)<i) (by first | exact av Iff.rfl | exact av (by rw[mJ (n:=n-1) (by omega) (by omega)])) (fun h6=>?_) (fun h6=>?_)
   ·refine ai (ai (fun _=>trivial) ?_) trivial
    show aB _ (iP (aV (.node 1 i l) n))
    rw[hA,if_pos (.inr h6)]
    exact rfl
   ·refine ai (ai (fun _=>trivial) ?_) trivial
    show aB _ (iP (aV (.node 1 i l) n))
    rw[hA,if_neg (fun h=>h.elim h5 h6)]
    exact rfl
  ·refine ei _ (ai (jD) (ei (()) (ei [] (ai (a4 (ai (fun _=>Or.inl rfl) (ai nof (Or.inl rfl)))) (ai (by exact trivial) (ai trivial (ai (trivial) ?_)))))))
   refine ai (ai (by show (0:Int)≤1;decide) (by show (1:Int)<5;decide)) ?_
   have hA:aV (.node 1 i l) n=if l.length<0∨0<l.length then 3 else if i<0∨(n-1)<i then 2 else 0:=hA
   refine ah (p:=0<l.length) (av (by dsimp only;omega)) (fun h4=>?_) (fun h4=>?_)
   ·refine ai (ai (fun _=>trivial) ?_) trivial
    show aB _ (iP (aV (.node 1 i l) n))
    rw[hA,if_pos (.inr h4)]
    exact rfl
   rw[if_neg (fun h=>h.elim (ai8 _) h4)] at hA
   refine ah (p:=i<0) (av Iff.rfl) (fun h5=>?_) (fun h5=>?_)
   ·refine ai (ai (fun _=>trivial) ?_) trivial
    show aB _ (iP (aV (.node 1 i l) n))
    rw[hA,if_pos (.inl h5)]
    exact rfl
   refine ah (p:=(n-1)<i) (by first | exact av Iff.rfl | exact av (by rw[mJ (n:=n-1) (by omega) (by omega)])) (fun h6=>?_) (fun h6=>?_)
   ·refine ai (ai (fun _=>trivial) ?_) trivial
    show aB _ (iP (aV (.node 1 i l) n))
    rw[hA,if_pos (.inr h6)]
    exact rfl
   ·refine ai (ai (fun _=>trivial) ?_) trivial
    show aB _ (iP (aV (.node 1 i l) n))
    rw[hA,if_neg (fun h=>h.elim h5 h6)]
    exact rfl
 ·refine ei (.one 1 (.one 2 (.alt 0 (.one 3 (.one 4 (.one 5 .done))) (.alt 4 (.one 0 (.one 3 (.one 5 .done))) .stop)))) (ai (by kernel_rfl) ?_)
  refine ai ?_ (ai ?_ trivial)
  ·refine ei _ (ai (jD) (ei (()) (ei [] (ai (a4 (ai (fun _=>Or.inl rfl) (ai nof (Or.inl rfl)))) (ai (by exact trivial) (ai trivial (ai (trivial) ?_)))))))
   refine ai (ai (by show (0:Int)≤2;decide) (by show (2:Int)<5;decide)) ?_
   have hA:aV (.node 2 i l) n=if l.length<1∨1<l.length then 3 else if i<0∨0<i then 2 else 0:=hA
   refine ah (p:=l.length<1) (av (by dsimp only;omega)) (fun h3=>?_) (fun h3=>?_)
   ·refine ai (ai (fun _=>trivial) ?_) trivial
    show aB _ (iP (aV (.node 2 i l) n))
    rw[hA,if_pos (.inl h3)]
    exact rfl
   refine ah (p:=1<l.length) (av (by dsimp only;omega)) (fun h4=>?_) (fun h4=>?_)
   ·refine ai (ai (fun _=>trivial) ?_) trivial
    show aB _ (iP (aV (.node 2 i l) n))
    rw[hA,if_pos (.inr h4)]
    exact rfl
   rw[if_neg (fun h=>h.elim h3 h4)] at hA
   refine ah (p:=i<0) (av Iff.rfl) (fun h5=>?_) (fun h5=>?_)
   ·refine ai (ai (fun _=>trivial) ?_) trivial
    show aB _ (iP (aV (.node 2 i l) n))
    rw[hA,if_pos (.inl h5)]
    exact rfl
   skip
   refine ah (p:=0<i) (av Iff.rfl) (fun h6=>?_) (fun h6=>?_)
   ·refine ai (ai (fun _=>trivial) ?_) trivial
    show aB _ (iP (aV (.node 2 i l) n))
    rw[hA,if_pos (.inr h6)]
    exact rfl
   ·refine ai (ai (fun _=>trivial) ?_) trivial
    show aB _ (iP (aV (.node 2 i l) n))
    rw[hA,if_neg (fun h=>h.elim h5 h6)]
    exact rfl
  ·refine ei _ (ai (jD) (ei (()) (ei [] (ai (a4 (ai (fun _=>Or.inl rfl) (ai nof (Or.inl rfl)))) (ai (by exact trivial) (ai trivial (ai (trivial) ?_)))))))
   refine ai (ai (by show (0:Int)≤2;decide) (by show (2:Int)<5;decide)) ?_
   have hA:aV (.node 2 i l) n=if l.length<1∨1<l.length then 3 else if i<0∨0<i then 2 else 0:=hA
   refine ah (p:=l.length<1) (av (by dsimp only;omega)) (fun h3=>?_) (fun h3=>?_)
   ·refine ai (ai (fun _=>trivial) ?_) trivial
    show aB _ (iP (aV (.node 2 i l) n))
    rw[hA,if_pos (.inl h3)]
    exact rfl
   refine ah (p:=1<l.length) (av (by dsimp only;omega)) (fun h4=>?_) (fun h4=>?_)
   ·refine ai (ai (fun _=>trivial) ?_) trivial
    show aB _ (iP (aV (.node 2 i l) n))
    rw[hA,if_pos (.inr h4)]
    exact rfl
   rw[if_neg (fun h=>h.elim h3 h4)] at hA
   refine ah (p:=i<0) (av Iff.rfl) (fun h5=>?_) (fun h5=>?_)
   ·refine ai (ai (fun _=>trivial) ?_) trivial
    show aB _ (iP (aV (.node 2 i l) n))
    rw[hA,if_pos (.inl h5)]
    exact rfl
   skip
   refine ah (p:=0<i) (av Iff.rfl) (fun h6=>?_) (fun h6=>?_)
   ·refine ai (ai (fun _=>trivial) ?_) trivial
    show aB _ (iP (aV (.node 2 i l) n))
    rw[hA,if_pos (.inr h6)]
    exact rfl
   ·refine ai (ai (fun _=>trivial) ?_) trivial
    show aB _ (iP (aV (.node 2 i l) n))
    rw[hA,if_neg (fun h=>h.elim h5 h6)]
    exact rfl
 ·refine ei (.one 1 (.one 2 (.alt 0 (.one 3 (.one 4 (.one 5 .done))) (.alt 4 (.one 0 (.one 3 (.one 5 .done))) .stop)))) (ai (by kernel_rfl) ?_)
  refine ai ?_ (ai ?_ trivial)
  ·refine ei _ (ai (jD) (ei (()) (ei [] (ai (a4 (ai (fun _=>Or.inl rfl) (ai nof (Or.inl rfl)))) (ai (by exact trivial) (ai trivial (ai (trivial) ?_)))))))
   refine ai (ai (by show (0:Int)≤3;decide) (by show (3:Int)<5;decide)) ?_
   have hA:aV (.node 3 i l) n=if l.length<2∨256<l.length then 3 else if i<0∨0<i then 2 else 0:=hA
   refine ah (p:=l.length<2) (av (by dsimp only;omega)) (fun h3=>?_) (fun h3=>?_)
   ·refine ai (ai (fun _=>trivial) ?_) trivial
    show aB _ (iP (aV (.node 3 i l) n))
    rw[hA,if_pos (.inl h3)]
    exact rfl
   refine ah (p:=256<l.length) (av (by dsimp only;omega)) (fun h4=>?_) (fun h4=>?_)
   ·refine ai (ai (fun _=>trivial) ?_) trivial
    show aB _ (iP (aV (.node 3 i l) n))
    rw[hA,if_pos (.inr h4)]
    exact rfl
   rw[if_neg (fun h=>h.elim h3 h4)] at hA
   refine ah (p:=i<0) (av Iff.rfl) (fun h5=>?_) (fun h5=>?_)
   ·refine ai (ai (fun _=>trivial) ?_) trivial
    show aB _ (iP (aV (.node 3 i l) n))
    rw[hA,if_pos (.inl h5)]
    exact rfl
   skip
   refine ah (p:=0<i) (av Iff.rfl) (fun h6=>?_) (fun h6=>?_)
   ·refine ai (ai (fun _=>trivial) ?_) trivial
    show aB _ (iP (aV (.node 3 i l) n))
    rw[hA,if_pos (.inr h6)]
    exact rfl
   ·refine ai (ai (fun _=>trivial) ?_) trivial
    show aB _ (iP (aV (.node 3 i l) n))
    rw[hA,if_neg (fun h=>h.elim h5 h6)]
    exact rfl
  ·refine ei _ (ai (jD) (ei (()) (ei [] (ai (a4 (ai (fun _=>Or.inl rfl) (ai nof (Or.inl rfl)))) (ai (by exact trivial) (ai trivial (ai (trivial) ?_)))))))
   refine ai (ai (by show (0:Int)≤3;decide) (by show (3:Int)<5;decide)) ?_
   have hA:aV (.node 3 i l) n=if l.length<2∨256<l.length then 3 else if i<0∨0<i then 2 else 0:=hA
   refine ah (p:=l.length<2) (av (by dsimp only;omega)) (fun h3=>?_) (fun h3=>?_)
   ·refine ai (ai (fun _=>trivial) ?_) trivial
    show aB _ (iP (aV (.node 3 i l) n))
    rw[hA,if_pos (.inl h3)]
    exact rfl
   refine ah (p:=256<l.length) (av (by dsimp only;omega)) (fun h4=>?_) (fun h4=>?_)
   ·refine ai (ai (fun _=>trivial) ?_) trivial
    show aB _ (iP (aV (.node 3 i l) n))
    rw[hA,if_pos (.inr h4)]
    exact rfl
   rw[if_neg (fun h=>h.elim h3 h4)] at hA
   refine ah (p:=i<0) (av Iff.rfl) (fun h5=>?_) (fun h5=>?_)
   ·refine ai (ai (fun _=>trivial) ?_) trivial
    show aB _ (iP (aV (.node 3 i l) n))
    rw[hA,if_pos (.inl h5)]
    exact rfl
   skip
   refine ah (p:=0<i) (av Iff.rfl) (fun h6=>?_) (fun h6=>?_)
   ·refine ai (ai (fun _=>trivial) ?_) trivial
    show aB _ (iP (aV (.node 3 i l) n))
    rw[hA,if_pos (.inr h6)]
    exact rfl
   ·refine ai (ai (fun _=>trivial) ?_) trivial
    show aB _ (iP (aV (.node 3 i l) n))
    rw[hA,if_neg (fun h=>h.elim h5 h6)]
    exact rfl
 ·refine ei (.one 1 (.one 2 (.alt 0 (.one 3 (.one 4 (.one 5 .done))) (.alt 4 (.one 0 (.one 3 (.one 5 .done))) .stop)))) (ai (by kernel_rfl) ?_)
  refine ai ?_ (ai ?_ trivial)
  ·refine ei _ (ai (jD) (ei (()) (ei [] (ai (a4 (ai (fun _=>Or.inl rfl) (ai nof (Or.inl rfl)))) (ai (by exact trivial) (ai trivial (ai (trivial) ?_)))))))
   refine ai (ai (by show (0:Int)≤4;decide) (by show (4:Int)<5;decide)) ?_
   have hA:aV (.node 4 i l) n=if l.length<2∨256<l.length then 3 else if i<0∨0<i then 2 else 0:=hA
   refine ah (p:=l.length<2) (av (by dsimp only;omega)) (fun h3=>?_) (fun h3=>?_)
   ·refine ai (ai (fun _=>trivial) ?_) trivial
    show aB _ (iP (aV (.node 4 i l) n))
    rw[hA,if_pos (.inl h3)]
    exact rfl
   refine ah (p:=256<l.length) (av (by dsimp only;omega)) (fun h4=>?_) (fun h4=>?_)
   ·refine ai (ai (fun _=>trivial) ?_) trivial
    show aB _ (iP (aV (.node 4 i l) n))
    rw[hA,if_pos (.inr h4)]
    exact rfl
   rw[if_neg (fun h=>h.elim h3 h4)] at hA
   refine ah (p:=i<0) (av Iff.rfl) (fun h5=>?_) (fun h5=>?_)
   ·refine ai (ai (fun _=>trivial) ?_) trivial
    show aB _ (iP (aV (.node 4 i l) n))
    rw[hA,if_pos (.inl h5)]
    exact rfl
   skip
   refine ah (p:=0<i) (av Iff.rfl) (fun h6=>?_) (fun h6=>?_)
   ·refine ai (ai (fun _=>trivial) ?_) trivial
    show aB _ (iP (aV (.node 4 i l) n))
    rw[hA,if_pos (.inr h6)]
    exact rfl
   ·refine ai (ai (fun _=>trivial) ?_) trivial
    show aB _ (iP (aV (.node 4 i l) n))
    rw[hA,if_neg (fun h=>h.elim h5 h6)]
    exact rfl
  ·refine ei _ (ai (jD) (ei (()) (ei [] (ai (a4 (ai (fun _=>Or.inl rfl) (ai nof (Or.inl rfl)))) (ai (by exact trivial) (ai trivial (ai (trivial) ?_)))))))
   refine ai (ai (by show (0:Int)≤4;decide) (by show (4:Int)<5;decide)) ?_
   have hA:aV (.node 4 i l) n=if l.length<2∨256<l.length then 3 else if i<0∨0<i then 2 else 0:=hA
   refine ah (p:=l.length<2) (av (by dsimp only;omega)) (fun h3=>?_) (fun h3=>?_)
   ·refine ai (ai (fun _=>trivial) ?_) trivial
    show aB _ (iP (aV (.node 4 i l) n))
    rw[hA,if_pos (.inl h3)]
    exact rfl
   refine ah (p:=256<l.length) (av (by dsimp only;omega)) (fun h4=>?_) (fun h4=>?_)
   ·refine ai (ai (fun _=>trivial) ?_) trivial
    show aB _ (iP (aV (.node 4 i l) n))
    rw[hA,if_pos (.inr h4)]
    exact rfl
   rw[if_neg (fun h=>h.elim h3 h4)] at hA
   refine ah (p:=i<0) (av Iff.rfl) (fun h5=>?_) (fun h5=>?_)
   ·refine ai (ai (fun _=>trivial) ?_) trivial
    show aB _ (iP (aV (.node 4 i l) n))
    rw[hA,if_pos (.inl h5)]
    exact rfl
   skip
   refine ah (p:=0<i) (av Iff.rfl) (fun h6=>?_) (fun h6=>?_)
   ·refine ai (ai (fun _=>trivial) ?_) trivial
    show aB _ (iP (aV (.node 4 i l) n))
    rw[hA,if_pos (.inr h6)]
    exact rfl
   ·refine ai (ai (fun _=>trivial) ?_) trivial
    show aB _ (iP (aV (.node 4 i l) n))
    rw[hA,if_neg (fun h=>h.elim h5 h6)]
    exact rfl
def qP (l:List (Nat×Ex)) (n:Int):Int:=((l.map fun y=>aV y.2 n).find? (fun e=>e != 0)).getD 0
def eH (x:Ex) (n:Int):Int:=if n<0∨256<n then 2 else if x.size≤256∧x.deep≤16 then qP (cZ 1 x) n else 5
theorem aem {α:Type} {p:α→Bool}:∀{l:List α} {k:Nat},(∀j,j<k→∀y,l[j]?=some y→p y=false)→∀{y:α},l[k]?=some y→p y=true→l.find? p=some y
 | [],k,_,y,h,_=>by simp at h
 | z :: l,0,_,y,h,hp=>by simp at h;subst h;simp[hp]
 | z :: l,k+1,hs,y,h,hp=>by
  have h0:=hs 0 (by omega) z rfl
  rw[List.find?_cons,h0]
  exact aem (k:=k) (fun j hj y hy=>hs (j+1) (by omega) y (by simpa using hy)) (by simpa using h) hp
theorem akN {l:List (Nat×Ex)} {n:Int} {k d:Nat} {x:Ex} (h0:∀z∈l.take k,aV z.2 n=0) (h:l[k]?=some (d,x)) (hn:aV x n≠0):qP l n=aV x n:=by
 unfold qP
 rw[aem (k:=k) (y:=aV x n)]
 ·rfl
 ·intro j hj y hy
  rw[ais] at hy
  cases hc:l[j]? with
  | none=>rw[hc] at hy;simp at hy
  | some z=>
   rw[hc] at hy;simp at hy;subst hy
   have:z∈l.take k:=by
    have:(l.take k)[j]?=some z:=by rw[ai3];simp[hj,hc]
    exact acH this
   simp[h0 z this]
 ·rw[ais,h];rfl
 ·simpa using hn
theorem qx {l:List (Nat×Ex)} {n:Int} (h0:∀z∈l,aV z.2 n=0):qP l n=0:=by
 unfold qP
 rw[as0.2]
 ·rfl
 ·intro y hy
  obtain ⟨z,hz,rfl⟩:=aq4.1 hy
  simp[h0 z hz]
theorem ajp {l:List (Nat×Ex)} {n:Int}:qP l n=0↔∀z∈l,aV z.2 n=0:=by
 constructor
 ·intro h z hz
  refine Classical.byContradiction fun hne=>?_
  unfold qP at h
  cases hf:(l.map fun y=>aV y.2 n).find? (fun e=>e != 0) with
  | none=>
   have:=as0.1 hf (aV z.2 n) (List.mem_map_of_mem hz)
   simp at this;exact hne this
  | some e=>
   rw[hf] at h
   have:=List.find?_some hf
   simp at h;simp[h] at this
 ·exact qx
mutual
theorem afN:∀(x:Ex) (d:Nat) (z:Nat×Ex),z∈cZ d x→z.2.size≤x.size
 | .node o i l,d,z,h=>by
  rw[lT] at h
  rcases ah5.1 h with rfl | h
  ·exact afM _
  ·unfold iq at h
   rw[Ex.size]
   split at h
   ·have:=ae0 l (d+1) z h;omega
   ·simp at h
theorem ae0:∀(l:List Ex) (d:Nat) (z:Nat×Ex),z∈dI d l→z.2.size≤sizes l
 | [],d,z,h=>by rw[dI] at h;simp at h
 | x :: l,d,z,h=>by
  rw[dI] at h
  rw[sizes]
  rcases ahi.1 h with h | h
  ·have:=afN x d z h;omega
  ·have:=ae0 l d z h;omega
end
theorem af3 (x:Ex):x.args.length<x.size:=by rw[x.size_eq];have:=y9 x.args;omega
def aqA:Spec:=bQ (fun y:Ex×Int=>[exA y.1,iA y.2]) (fun y=>y.1.size≤1000000) (fun y=>iP (eH y.1 y.2))
theorem afH:aK Tryz.prog 140 aqA:=by
 refine aX (Tb:=tab) mixed aA Tryz.func140 rfl rfl ?_
 rintro ⟨x,n⟩ hpre
 refine ai (ai rfl (ai rfl rfl)) ?_
 have hpre:x.size≤1000000:=hpre
 refine ah (p:=n<0) (av (by omega)) (fun h1=>?_) (fun h1=>?_)
 ·refine ai (ai (fun _=>trivial) ?_) trivial
  show aB _ (iP (eH x n))
  rw[eH,if_pos (.inl h1)]
  exact rfl
 refine ah (p:=256<n) (av (by omega)) (fun h2=>?_) (fun h2=>?_)
 ·refine ai (ai (fun _=>trivial) ?_) trivial
  show aB _ (iP (eH x n))
  rw[eH,if_pos (.inr h2)]
  exact rfl
 have hA:eH x n=if x.size≤256∧x.deep≤16 then qP (cZ 1 x) n else 5:=by
  unfold eH;rw[if_neg (fun h=>h.elim h1 h2)]
 by_cases hm:x.size≤256∧x.deep≤16
 ·have e1:mR x=.tup [iP x.size,iP x.deep,bP true]:=by unfold mR wO;rw[if_pos hm]
  rw[if_pos hm] at hA
  refine ei _ (ai ((vM ai6 x hpre e1)) (ei (()) (ei [] (ai (a4 (ai (fun _=>Or.inl rfl) (ai nof (Or.inl rfl)))) (ai (by exact (ai rfl (ai rfl (ai rfl (fun _ _=>rfl))))) (ai trivial (ai (trivial) ?_)))))))
  refine ei _ (ai (akL) (ei (x) (ei [] (ai (a4 (ai (fun _=>Or.inl rfl) (ai nof (Or.inl rfl)))) (ai (by exact (ai rfl (ai rfl (ai rfl (fun _ _=>rfl))))) (ai trivial (ai (trivial) ?_)))))))
  refine ai (ai rfl rfl) (ei preS (ai afO (ei x (ai ?_ (ai hpre (ai alL (ei { X:=Nat,uo:=fun k=>[],inv:=fun k y=>y=k∧∀z∈(cZ 1 x).take k,aV z.2 n=0,x0:=0 } (ai ?_ (ai ?_ (ai ?_ (ai ?_ ?_)))))))))))
  ·exact (ai rfl rfl)
  ·exact (ai rfl (ai rfl (ai rfl rfl)))
  ·exact trivial
  ·exact ⟨rfl,by simp⟩
  ·rintro k (y:Nat) vs ⟨hy,hall⟩ hvs
   subst hy
   obtain ⟨d,z,hg,rfl⟩:=akY hvs
   have hz:=acH hg
   have hzs:z.size≤x.size:=afN x 1 _ hz
   have hza:=af3 z
   refine ei _ (ai (aoL) (ei ((z,n)) (ei [] (ai (a4 (ai (fun _=>Or.inl rfl) (ai nof (Or.inl rfl)))) (ai (by exact (ai (ai rfl (ai rfl (ai rfl (fun _ _=>rfl)))) rfl)) (ai trivial (ai (⟨by show z.args.length≤1000000;omega,by show 0≤n;omega,by show n≤256;omega⟩) ?_)))))))
   refine bI (p:=aV z n=0) (dh (by dsimp only;omega)) (fun h3=>?_) (fun h3=>?_)
   ·refine ai (ai (fun _=>trivial) ?_) trivial
    show aB _ (iP (eH x n))
    rw[hA,akN hall hg h3]
    exact rfl
   refine ei (y+1) (ai rfl (ai (ai (ai rfl rfl) (ai (ai rfl rfl) ?_)) ⟨rfl,?_⟩))
   ·exact trivial
   ·intro w hw
    have hs:(cZ 1 x).take (y+1)=(cZ 1 x).take y++[(d,z)]:=by rw[atg,hg];rfl
    rw[hs] at hw
    rcases ahi.1 hw with hw | hw
    ·exact hall w hw
    ·simp at hw;subst hw;exact h3
  ·rintro (y:Nat) ⟨hy,hall⟩
   have hl:(preS.xs x).length=(cZ 1 x).length:=ajh _
   rw[hl] at hy hall
   subst hy
   rw[aga] at hall
   refine ai (ai (fun _=>trivial) ?_) trivial
   show aB _ (iP (eH x n))
   rw[hA,qx hall]
   exact rfl
 ·have e1:mR x=.tup [iP 0,iP 0,bP false]:=by unfold mR wO;rw[if_neg hm]
  rw[if_neg hm] at hA
  refine ei _ (ai ((vM ai6 x hpre e1)) (ei (()) (ei [] (ai (a4 (ai (fun _=>Or.inl rfl) (ai nof (Or.inl rfl)))) (ai (by exact (ai rfl (ai rfl (ai rfl (fun _ _=>rfl))))) (ai trivial (ai (trivial) ?_)))))))
  refine ai (ai (fun _=>trivial) ?_) trivial
  show aB _ (iP (eH x n))
  rw[hA]
  exact rfl
mutual
def l8 (n:Int):Ex→Prop
 | .node o i l=>aV (.node o i l) n=0∧q8 n l
def q8 (n:Int):List Ex→Prop
 | []=>True
 | x :: l=>l8 n x∧q8 n l
end
theorem adn (n:Int):∀l:List Ex,q8 n l↔∀x∈l,l8 n x
 | []=>by rw[q8];simp
 | x :: l=>by rw[q8,adn n l];simp
theorem wP (n:Int) (x:Ex):l8 n x↔aV x n=0∧∀y∈x.args,l8 n y:=by
 cases x;rw[l8,adn]
mutual
theorem ag0 (n:Int):∀(x:Ex) (d:Nat),x.deep+d≤17→((∀z∈cZ d x,aV z.2 n=0)↔l8 n x)
 | .node o i l,d,h=>by
  rw[Ex.deep] at h
  rw[lT,l8]
  unfold iq
  rw[if_pos (by omega),←aex n l (d+1) (by omega)]
  constructor
  ·exact fun h=>⟨h _ an0,fun z hz=>h z (aoc _ hz)⟩
  ·rintro ⟨h1,h2⟩ z hz
   rcases ah5.1 hz with rfl | hz
   ·exact h1
   ·exact h2 z hz
theorem aex (n:Int):∀(l:List Ex) (d:Nat),jB l+d≤17→((∀z∈dI d l,aV z.2 n=0)↔q8 n l)
 | [],d,h=>by rw[dI,q8];simp
 | x :: l,d,h=>by
  rw[jB] at h
  rw[dI,q8,←ag0 n x d (by omega),←aex n l d (by omega)]
  constructor
  ·exact fun h=>⟨fun z hz=>h z (List.mem_append_left _ hz),fun z hz=>h z (ato _ hz)⟩
  ·rintro ⟨h1,h2⟩ z hz
   rcases ahi.1 hz with hz | hz
   ·exact h1 z hz
   ·exact h2 z hz
end
theorem abr {x:Ex} {n:Int}:eH x n=0↔(0≤n∧n≤256)∧(x.size≤256∧x.deep≤16)∧l8 n x:=by
 unfold eH
 by_cases h1:n<0∨256<n
 ·rw[if_pos h1]
  constructor
  ·intro h;exact absurd h (by decide)
  ·rintro ⟨h,_⟩;omega
 ·rw[if_neg h1]
  by_cases h2:x.size≤256∧x.deep≤16
  ·rw[if_pos h2,ajp,ag0 n x 1 (by omega)]
   exact ⟨fun h=>⟨by omega,h2,h⟩,fun h=>h.2.2⟩
  ·rw[if_neg h2]
   constructor
   ·intro h;exact absurd h (by decide)
   ·rintro ⟨_,h,_⟩;exact absurd h h2
theorem rZ {x:Ex} {n:Int} (h:aV x n=0):(0≤x.op∧x.op<5)∧(nE x.op≤x.args.length∧x.args.length≤aaY x.op)∧(0≤x.idx∧x.idx≤pX x.op n):=by
 unfold aV at h
 split at h
 ·exact absurd h (by decide)
 ·split at h
  ·exact absurd h (by decide)
  ·split at h
   ·exact absurd h (by decide)
   ·omega
theorem tV:∀(a b:List Ex),sizes (a++b)=sizes a+sizes b
 | [],b=>by rw[sizes,List.nil_append];omega
 | x :: a,b=>by rw[atm,sizes,sizes,tV a b];omega
theorem ajk {l:List Ex} {k:Nat} (h:k<l.length):sizes (l.take (k+1))=sizes (l.take k)+(l.getD k gU).size:=by
 rw[aU gU h,tV];show _+(_+sizes [])=_;rw[sizes];rfl
theorem akt (l:List Ex) (k:Nat):sizes (l.take k)≤sizes l:=by
 conv=>rhs;rw[←asv k l,tV]
 omega
def tF (x:Ex):Bool:=decide (x.size≤256)&&decide (x.deep≤16)
theorem wK {x:Ex}:tF x=true↔x.size≤256∧x.deep≤16:=by unfold tF;simp
def oV (b:Bool):Ex:=.node 0 (if b then 1 else 0) []
def aqh:Spec:=bQ (fun b:Bool=>[bA b]) (fun _=>True) (fun b=>exP (oV b))
theorem amc:aK Tryz.prog 123 aqh:=by
 refine aX (Tb:=tab) mixed aA Tryz.func123 rfl rfl ?_
 rintro (b:Bool) hpre
 refine ai (ai rfl (ai rfl rfl)) ?_
 refine aY (b:=b) rfl (fun h1=>?_) (fun h1=>?_)
 ·subst h1
  refine ai (ai (fun _=>trivial) ?_) trivial
  exact (ai (iE rfl) (ai (iE rfl) rfl))
 ·subst h1
  refine ai (ai (fun _=>trivial) ?_) trivial
  exact (ai (iE rfl) (ai (iE rfl) rfl))
theorem adY {P:Program} {f:Nat} {S:Spec} (h:aK P f S) {res:S.A→PV} (e:∀a,S.pre a→gT (S.res a) (res a)):aK P f { S with res:=res }:=
 ⟨h.1,fun a hp E vs w hg hh hA=>(h.2 a hp E vs w hg hh hA).mono fun e' w' ⟨v,E',h1,h2,h3⟩=>⟨v,E',h1,qU (e a hp) h2,h3⟩⟩
def SLe:List SV→List SV→Prop
 | [],[]=>True
 | s :: l,t :: m=>(s=t∨∃d d',s=.p false d∧t=.p false d'∧gT d d')∧SLe l m
 | _,_=>False
theorem SLe.get:∀{l m:List SV},SLe l m→l.length=m.length∧∀(k:Nat) (s t:SV),l[k]?=some s→m[k]?=some t→s=t∨∃d d',s=.p false d∧t=.p false d'∧gT d d'
 | [],[],_=>⟨rfl,fun k s t h=>by simp at h⟩
 | [],_ :: _,h=>h.elim
 | _ :: _,[],h=>h.elim
 | s :: l,t :: m,⟨h1,h2⟩=>by
  obtain ⟨g1,g2⟩:=SLe.get h2
  refine ⟨by simp[g1],fun k x y hx hy=>?_⟩
  cases k with
  | zero=>simp at hx hy;subst hx;subst hy;exact h1
  | succ k=>exact g2 k x y (by simpa using hx) (by simpa using hy)
theorem amR {P:Program} {f:Nat} {S:Spec} (h:aK P f S) {args:S.A→List SV} (e:∀a,S.pre a→SLe (args a) (S.args a)):aK P f { S with args:=args }:=
 ⟨h.1,fun a hp E vs w hg hh hA=>by
  refine h.2 a hp E vs w hg hh ?_
  obtain ⟨g1,g2⟩:=(e a hp).get
  obtain ⟨h1,h2⟩:=hA
  refine ⟨h1.trans g1,fun k u t hu ht=>?_⟩
  obtain ⟨s,hs⟩:=kr g1 ht
  have hr:=h2 k u s hu hs
  rcases g2 k s t hs ht with e | ⟨d,d',e1,e2,hle⟩
  ·subst e;exact hr
  ·subst e1;subst e2
   cases hr with
   | p _ _ _ hx=>exact .p _ _ _ (qU hle hx)⟩
abbrev Sk := Int × Bool
structure Stp where
 st:List Sk
 wt:Int
structure kM where
 fr:List Int
 to:List Int
 wh:Ex
structure aW where
 act:Int
 ins:List (List UInt8)
 sts:List Stp
 trs:List kM
def vY (x:Sk):List PV:=[iP x.1,bP x.2]
def skA (x:Sk):SV:=.p false (.agg (vY x))
def aR:Sk:=(0,false)
def nZ (l:List Sk):PV:=.seq l.length (fun k=>vY (l.getD k aR))
def aed (l:List Sk):SV:=.p false (nZ l)
def stK (x:Stp):List PV:=[nZ x.st,iP x.wt]
def stA (x:Stp):SV:=.p false (.agg (stK x))
def st0:Stp:=⟨[],0⟩
def akr (l:List Stp):PV:=.seq l.length (fun k=>stK (l.getD k st0))
def trK (x:kM):List PV:=[mq x.fr,mq x.to,iP x.wh.op,iP x.wh.idx,.seq x.wh.args.length (exF x.wh.args)]
def trA (x:kM):SV:=.p false (.agg (trK x))
def bB:kM:=⟨[],[],gU⟩
def aqu (l:List kM):PV:=.seq l.length (fun k=>trK (l.getD k bB))
def chK (c:aW):List PV:=[iP c.act,ssP c.ins,akr c.sts,aqu c.trs]
def sU (c:aW):PV:=.agg (chK c)
def kU (c:aW):SV:=.p false (sU c)
def fZ {α:Type} (p:α→Bool) (l:List α):Int:=match l.findIdx? p with
 | some k=>k
 | none=>-1
theorem ni {α:Type} {p:α→Bool}:∀{l:List α} {k:Nat} {d:α},k<l.length→p (l.getD k d)=true→(∀y∈l.take k,p y=false)→fZ p l=k
 | [],k,d,h,_,_=>by simp at h
 | x :: l,0,d,_,h,_=>by
  have h:p x=true:=h
  unfold fZ;simp[List.findIdx?_cons,h]
 | x :: l,k+1,d,hk,h,hn=>by
  have h1:p x=false:=hn x (by simp)
  have h2:=ni (l:=l) (k:=k) (d:=d) (by simpa using hk) (by simpa using h) (fun y hy=>hn y (by simp[hy]))
  unfold fZ at h2 ⊢
  rw[List.findIdx?_cons,h1]
  cases hc:l.findIdx? p with
  | none=>rw[hc] at h2;simp only at h2;omega
  | some q=>rw[hc] at h2;simp only at h2;simp;omega
theorem oC {α:Type} {p:α→Bool} {l:List α} (h:∀y∈l,p y=false):fZ p l=-1:=by
 unfold fZ
 rw[List.findIdx?_eq_none_iff.2 (by simpa using h)]
theorem mK {α:Type} (p:α→Bool) (l:List α):decide (0≤fZ p l)=l.any p:=by
 unfold fZ
 cases hc:l.findIdx? p with
 | none=>
  have:=List.findIdx?_eq_none_iff.1 hc
  symm;rw[show decide ((0:Int)≤-1)=false by decide,aqt]
  intro x hx;simp[this x hx]
 | some k=>
  simp only
  rw[decide_eq_true (by omega)]
  symm;rw[arN]
  obtain ⟨h,h1,_⟩:=List.findIdx?_eq_some_iff_getElem.1 hc
  exact ⟨_,asT h,h1⟩
def aot:Spec:=bQ (fun a:List (Int)×(Int)=>[isA a.1,iA a.2]) (fun a=>a.1.length≤1000000) (fun a=>iP (fZ (fun y=>a.2==y) a.1))
theorem alY:aK Tryz.prog 107 aot:=by
 refine aX (Tb:=tab) mixed aA Tryz.func107 rfl rfl ?_
 rintro (a:List (Int)×(Int)) hpre
 refine ai (ai rfl (ai rfl rfl)) ?_
 have hl:a.1.length≤1000000:=hpre
 refine ei (bF.inv { X:=Nat,up:=fun k=>[(8,.s (iA k))],uo:=fun k=>[],inv:=fun k=>k≤a.1.length∧(∀y∈a.1.take k,(a.2==y)=false),meas:=fun k=>a.1.length-k,x0:=0 }) ?_
 refine ai (ai (ai (by exact (a4 (ai rfl rfl))) (ai (by exact (ai (ai (fun _=>rfl) (iE (by simp only[zz,reduceCtorEq];rfl))) rfl)) (by exact trivial))) rfl) (ai (ai (ae4 _) ?_) ?_)
 ·exact fun y hy=>absurd hy (by simp)
 intro (k:Nat) ⟨hk,hall⟩
 refine ah (p:=k<a.1.length) (av (by omega)) (fun h1=>?_) (fun h1=>?_)
 ·refine ai (ai (abq _) (iN (n:=a.1.length) (by omega))) (ai rfl ?_)
  refine ah (p:=(a.2==a.1.getD k 0)=true) (by exact Iff.rfl) (fun h2=>?_) (fun h2=>?_)
  ·refine ai (ai (fun _=>trivial) ?_) trivial
   show aB _ (iP (fZ (fun y=>a.2==y) a.1))
   rw[ni (d:=0) h1 h2 hall]
   exact rfl
  refine ei (k+1) (ai (ai rfl rfl) (ai (ai (ai rfl (ai (ai rfl rfl) (ai (ai rfl rfl) (ai (ai (ai (fun _=>rfl) (aO (by omega))) rfl) trivial)))) rfl) (ai (ai (iL (by omega)) ?_) (iM (by omega)))))
  intro y hy
  rw[aU 0 h1] at hy
  rcases ahi.1 hy with hy | hy
  ·exact hall y hy
  ·simp only[agb] at hy;subst hy;simpa using h2
 ·obtain rfl:k=a.1.length:=by omega
  rw[aga] at hall
  refine ai (ai (fun _=>trivial) ?_) trivial
  show aB _ (iP (fZ (fun y=>a.2==y) a.1))
  rw[oC hall]
  exact rfl
def arx:Spec:=bQ (fun a:List (Int)×(Int)=>[isA a.1,iA a.2]) (fun a=>a.1.length≤1000000) (fun a=>bP (a.1.any fun y=>a.2==y))
theorem apG:aK Tryz.prog 41 arx:=by
 refine aX (Tb:=tab) mixed aA Tryz.func41 rfl rfl ?_
 rintro (a:List (Int)×(Int)) hpre
 refine ai (ai rfl (ai rfl rfl)) ?_
 refine ei _ (ai (alY) (ei (a) (ei [] (ai (a4 (ai (fun _=>Or.inl rfl) (ai nof (Or.inl rfl)))) (ai (by exact (ai (ai rfl (fun _ _=>rfl)) rfl)) (ai trivial (ai (hpre) ?_)))))))
 refine ai (ai (fun _=>trivial) ?_) trivial
 show aB _ (bP (a.1.any fun y=>a.2==y))
 rw[(mK (fun y=>a.2==y) a.1).symm]
 exact rfl
def apj:Spec:=bQ (fun a:List (List UInt8)×(List UInt8)=>[ssA a.1,sA a.2]) (fun a=>a.1.length≤1000000) (fun a=>iP (fZ (fun y=>a.2==y) a.1))
theorem alE:aK Tryz.prog 179 apj:=by
 refine aX (Tb:=tab) mixed aA Tryz.func179 rfl rfl ?_
 rintro (a:List (List UInt8)×(List UInt8)) hpre
 refine ai (ai rfl (ai rfl rfl)) ?_
 have hl:a.1.length≤1000000:=hpre
 refine ei (bF.inv { X:=Nat,up:=fun k=>[(8,.s (iA k))],uo:=fun k=>[],inv:=fun k=>k≤a.1.length∧(∀y∈a.1.take k,(a.2==y)=false),meas:=fun k=>a.1.length-k,x0:=0 }) ?_
 refine ai (ai (ai (by exact (a4 (ai rfl rfl))) (ai (by exact (ai (ai (fun _=>rfl) (iE (by simp only[zz,reduceCtorEq];rfl))) rfl)) (by exact trivial))) rfl) (ai (ai (ae4 _) ?_) ?_)
 ·exact fun y hy=>absurd hy (by simp)
 intro (k:Nat) ⟨hk,hall⟩
 refine ah (p:=k<a.1.length) (av (by omega)) (fun h1=>?_) (fun h1=>?_)
 ·refine ai (ai (abq _) (iN (n:=a.1.length) (by omega))) (ai rfl ?_)
  refine ah (p:=(a.2==a.1.getD k [])=true) (by exact Iff.rfl) (fun h2=>?_) (fun h2=>?_)
  ·refine ai (ai (fun _=>trivial) ?_) trivial
   show aB _ (iP (fZ (fun y=>a.2==y) a.1))
   rw[ni (d:=[]) h1 h2 hall]
   exact rfl
  refine ei (k+1) (ai (ai rfl rfl) (ai (ai (ai rfl (ai (ai rfl rfl) (ai (ai rfl rfl) (ai (ai (ai (fun _=>rfl) (aO (by omega))) rfl) trivial)))) rfl) (ai (ai (iL (by omega)) ?_) (iM (by omega)))))
  intro y hy
  rw[aU [] h1] at hy
  rcases ahi.1 hy with hy | hy
  ·exact hall y hy
  ·simp only[agb] at hy;subst hy;simpa using h2
 ·obtain rfl:k=a.1.length:=by omega
  rw[aga] at hall
  refine ai (ai (fun _=>trivial) ?_) trivial
  show aB _ (iP (fZ (fun y=>a.2==y) a.1))
  rw[oC hall]
  exact rfl
def arp:Spec:=bQ (fun a:List (List UInt8)×(List UInt8)=>[ssA a.1,sA a.2]) (fun a=>a.1.length≤1000000) (fun a=>bP (a.1.any fun y=>a.2==y))
theorem aiG:aK Tryz.prog 147 arp:=by
 refine aX (Tb:=tab) mixed aA Tryz.func147 rfl rfl ?_
 rintro (a:List (List UInt8)×(List UInt8)) hpre
 refine ai (ai rfl (ai rfl rfl)) ?_
 refine ei _ (ai (alE) (ei (a) (ei [] (ai (a4 (ai (fun _=>Or.inl rfl) (ai nof (Or.inl rfl)))) (ai (by exact (ai (ai rfl (fun _ _=>rfl)) rfl)) (ai trivial (ai (hpre) ?_)))))))
 refine ai (ai (fun _=>trivial) ?_) trivial
 show aB _ (bP (a.1.any fun y=>a.2==y))
 rw[(mK (fun y=>a.2==y) a.1).symm]
 exact rfl
def aoh:Spec:=bQ (fun a:List (Bool)×(Bool)=>[vZ a.1,bA a.2]) (fun a=>a.1.length≤1000000) (fun a=>iP (fZ (fun y=>a.2==y) a.1))
theorem ak7:aK Tryz.prog 165 aoh:=by
 refine aX (Tb:=tab) mixed aA Tryz.func165 rfl rfl ?_
 rintro (a:List (Bool)×(Bool)) hpre
 refine ai (ai rfl (ai rfl rfl)) ?_
 have hl:a.1.length≤1000000:=hpre
 refine ei (bF.inv { X:=Nat,up:=fun k=>[(8,.s (iA k))],uo:=fun k=>[],inv:=fun k=>k≤a.1.length∧(∀y∈a.1.take k,(a.2==y)=false),meas:=fun k=>a.1.length-k,x0:=0 }) ?_
 refine ai (ai (ai (by exact (a4 (ai rfl rfl))) (ai (by exact (ai (ai (fun _=>rfl) (iE (by simp only[zz,reduceCtorEq];rfl))) rfl)) (by exact trivial))) rfl) (ai (ai (ae4 _) ?_) ?_)
 ·exact fun y hy=>absurd hy (by simp)
 intro (k:Nat) ⟨hk,hall⟩
 refine ah (p:=k<a.1.length) (av (by omega)) (fun h1=>?_) (fun h1=>?_)
 ·refine ai (ai (abq _) (iN (n:=a.1.length) (by omega))) (ai rfl ?_)
  refine ah (p:=(a.2==a.1.getD k false)=true) (by exact Iff.rfl) (fun h2=>?_) (fun h2=>?_)
  ·refine ai (ai (fun _=>trivial) ?_) trivial
   show aB _ (iP (fZ (fun y=>a.2==y) a.1))
   rw[ni (d:=false) h1 h2 hall]
   exact rfl
  refine ei (k+1) (ai (ai rfl rfl) (ai (ai (ai rfl (ai (ai rfl rfl) (ai (ai rfl rfl) (ai (ai (ai (fun _=>rfl) (aO (by omega))) rfl) trivial)))) rfl) (ai (ai (iL (by omega)) ?_) (iM (by omega)))))
  intro y hy
  rw[aU false h1] at hy
  rcases ahi.1 hy with hy | hy
  ·exact hall y hy
  ·simp only[agb] at hy;subst hy;simpa using h2
 ·obtain rfl:k=a.1.length:=by omega
  rw[aga] at hall
  refine ai (ai (fun _=>trivial) ?_) trivial
  show aB _ (iP (fZ (fun y=>a.2==y) a.1))
  rw[oC hall]
  exact rfl
def arw:Spec:=bQ (fun a:List (Bool)×(Bool)=>[vZ a.1,bA a.2]) (fun a=>a.1.length≤1000000) (fun a=>bP (a.1.any fun y=>a.2==y))
theorem aon:aK Tryz.prog 132 arw:=by
 refine aX (Tb:=tab) mixed aA Tryz.func132 rfl rfl ?_
 rintro (a:List (Bool)×(Bool)) hpre
 refine ai (ai rfl (ai rfl rfl)) ?_
 refine ei _ (ai (ak7) (ei (a) (ei [] (ai (a4 (ai (fun _=>Or.inl rfl) (ai nof (Or.inl rfl)))) (ai (by exact (ai (ai rfl (fun _ _=>rfl)) rfl)) (ai trivial (ai (hpre) ?_)))))))
 refine ai (ai (fun _=>trivial) ?_) trivial
 show aB _ (bP (a.1.any fun y=>a.2==y))
 rw[(mK (fun y=>a.2==y) a.1).symm]
 exact rfl
def fT (c:UInt8):Bool:=(decide (97≤c.toNat)&&decide (c.toNat≤122))||(decide (65≤c.toNat)&&decide (c.toNat≤90))
def gN (c:UInt8):Bool:=fT c||(decide (48≤c.toNat)&&decide (c.toNat≤57))||decide (c.toNat=95)
def aoQ:Spec:=bQ (fun c:UInt8=>[cA c]) (fun _=>True) (fun c=>bP (fT c))
theorem aes:aK Tryz.prog 202 aoQ:=by
 refine aX (Tb:=tab) mixed aA Tryz.func202 rfl rfl ?_
 rintro (c:UInt8) hpre
 refine ai (ai rfl (ai rfl rfl)) ?_
 refine ah (p:=97≤c.toNat) (gD (by omega)) (fun h1=>?_) (fun h1=>?_)
 ·refine ah (p:=c.toNat≤122) (gD (by omega)) (fun h2=>?_) (fun h2=>?_)
  ·refine ai (ai (fun _=>trivial) ?_) trivial
   show aB _ (bP (fT c))
   rw[show fT c=true by unfold fT;rw[decide_eq_true h1,decide_eq_true h2];rfl]
   exact rfl
  refine ah (p:=65≤c.toNat) (gD (by omega)) (fun h3=>?_) (fun h3=>?_)
  ·refine ai (ai (fun _=>trivial) ?_) trivial
   show aB _ (bP (fT c))
   rw[show fT c=decide ((c.toNat:Int)≤90) by unfold fT;rw[decide_eq_false h2,decide_eq_true h3,ata,arL,asx];exact decide_eq_decide.2 (by omega)]
   exact rfl
  ·omega
 ·refine ah (p:=65≤c.toNat) (gD (by omega)) (fun h3=>?_) (fun h3=>?_)
  ·refine ai (ai (fun _=>trivial) ?_) trivial
   show aB _ (bP (fT c))
   rw[show fT c=decide ((c.toNat:Int)≤90) by unfold fT;rw[decide_eq_false h1,decide_eq_true h3,aqd,arL,asx];exact decide_eq_decide.2 (by omega)]
   exact rfl
  ·refine ai (ai (fun _=>trivial) ?_) trivial
   show aB _ (bP (fT c))
   rw[show fT c=false by unfold fT;rw[decide_eq_false h1,decide_eq_false h3,aqd,aqd];rfl]
   exact rfl
def aqi:Spec:=bQ (fun c:UInt8=>[cA c]) (fun _=>True) (fun c=>bP (gN c))
theorem anK:aK Tryz.prog 201 aqi:=by
 refine aX (Tb:=tab) mixed aA Tryz.func201 rfl rfl ?_
 rintro (c:UInt8) hpre
 refine ai (ai rfl (ai rfl rfl)) ?_
 refine ei _ (ai (aes) (ei (c) (ei [] (ai (a4 (ai (fun _=>Or.inl rfl) (ai nof (Or.inl rfl)))) (ai (by exact rfl) (ai trivial (ai (trivial) ?_)))))))
 refine aY (b:=fT c) rfl (fun h0=>?_) (fun h0=>?_)
 ·refine ai (ai (fun _=>trivial) ?_) trivial
  show aB _ (bP (gN c))
  rw[show gN c=true by unfold gN;rw[h0];rfl]
  exact rfl
 refine ah (p:=48≤c.toNat) (gD (by omega)) (fun h1=>?_) (fun h1=>?_)
 ·refine ah (p:=c.toNat≤57) (gD (by omega)) (fun h2=>?_) (fun h2=>?_)
  ·refine ai (ai (fun _=>trivial) ?_) trivial
   show aB _ (bP (gN c))
   rw[show gN c=true by unfold gN;rw[decide_eq_true h1,decide_eq_true h2,Bool.and_self,att,atr]]
   exact rfl
  ·refine ai (ai (fun _=>trivial) ?_) trivial
   show aB _ (bP (gN c))
   rw[show gN c=((c.toNat:Int)==95) by unfold gN;rw[h0,decide_eq_false h2,ata,asx,asx,arJ,beq_iff_eq,decide_eq_true_iff];omega]
   exact rfl
 ·refine ai (ai (fun _=>trivial) ?_) trivial
  show aB _ (bP (gN c))
  rw[show gN c=((c.toNat:Int)==95) by unfold gN;rw[h0,decide_eq_false h1,aqd,asx,asx,arJ,beq_iff_eq,decide_eq_true_iff];omega]
  exact rfl
def jA (s:List UInt8):Bool:=s.all gN&&(!s.isEmpty&&fT (s.getD 0 0))
def ars:Spec:=bQ (fun s:List UInt8=>[sA s]) (fun s=>s.length≤1000000) (fun s=>bP (jA s))
theorem vW {s:List UInt8} {k:Nat} (h:k<s.length):(strOf s)[k]?=some (s.getD k 0):=by
 have h1:s[k]?=some (s.getD k 0):=bH 0 h
 show (if h:k<(strOf s).size then some ((strOf s).get k h) else none)=_
 have h2:k<(strOf s).size:=by rw[eF];exact h
 rw[dif_pos h2,←h1,abb h];rfl
theorem aoM:aK Tryz.prog 169 ars:=by
 refine aX (Tb:=tab) mixed aA Tryz.func169 rfl rfl ?_
 rintro (s:List UInt8) hpre
 refine ai (ai rfl (ai rfl rfl)) ?_
 have hl:s.length≤1000000:=hpre
 have hz:=eF s
 refine ei (bF.inv { X:=Nat,up:=fun k=>[(6,.s (iA k))],uo:=fun k=>[],inv:=fun k=>k≤s.length∧(∀c∈s.take k,gN c=true),meas:=fun k=>s.length-k,x0:=0 }) ?_
 refine ai (ai (ai (by exact (a4 (ai rfl rfl))) (ai (by exact (ai (ai (fun _=>rfl) (iE (by simp only[zz,reduceCtorEq];rfl))) rfl)) (by exact trivial))) rfl) (ai (ai (ae4 _) ?_) ?_)
 ·exact fun y hy=>absurd hy (by simp)
 intro (k:Nat) ⟨hk,hall⟩
 refine ah (p:=k<s.length) (by exact av (by rw[hz];omega)) (fun h1=>?_) (fun h1=>?_)
 ·refine ei (s.getD k 0) (ai (ai (abq _) (vW h1)) ?_)
  refine ei _ (ai (anK) (ei (s.getD k 0) (ei [] (ai (a4 (ai (fun _=>Or.inl rfl) (ai nof (Or.inl rfl)))) (ai (by exact rfl) (ai trivial (ai (trivial) ?_)))))))
  refine aY (b:=!gN (s.getD k 0)) rfl (fun h2=>?_) (fun h2=>?_)
  ·have h3:s.all gN=false:=by
    rw[atF]
    exact ⟨s.getD k 0,acH (bH 0 h1),by simpa using h2⟩
   refine ai (ai (fun _=>trivial) ?_) trivial
   show aB _ (bP (jA s))
   rw[jA,h3,aqd]
   exact rfl
  refine ei (k+1) (ai (ai rfl rfl) (ai (ai (ai rfl (ai (ai rfl rfl) (ai (ai rfl rfl) (ai (ai (ai (fun _=>rfl) (aO (by omega))) rfl) trivial)))) rfl) (ai (ai (iL (by omega)) ?_) (iM (by omega)))))
  intro y hy
  rw[aU 0 h1] at hy
  rcases ahi.1 hy with hy | hy
  ·exact hall y hy
  ·simp only[agb] at hy;subst hy;simpa using h2
 ·obtain rfl:k=s.length:=by omega
  rw[aga] at hall
  have h3:s.all gN=true:=alM.2 hall
  refine bI (p:=s=[]) (by show (s != [])=true↔_;exact bne_iff_ne) (fun h4=>?_) (fun h4=>?_)
  ·have hp:0<s.length:=atv.2 h4
   refine ei (s.getD 0 0) (ai (ai (by decide) (vW hp)) ?_)
   refine ei _ (ai (aes) (ei (s.getD 0 0) (ei [] (ai (a4 (ai (fun _=>Or.inl rfl) (ai nof (Or.inl rfl)))) (ai (by exact rfl) (ai trivial (ai (trivial) ?_)))))))
   have h5:s.isEmpty=false:=by cases s with | nil=>exact absurd rfl h4 | cons x l=>rfl
   refine ai (ai (fun _=>trivial) ?_) trivial
   show aB _ (bP (jA s))
   rw[jA,h3,h5,arL,Bool.not_false,arL]
   exact rfl
  ·refine ai (ai (fun _=>trivial) ?_) trivial
   show aB _ (bP (jA s))
   rw[show jA s=false by rw[h4];rfl]
   exact rfl
def dK (f:Nat→Int):Nat→Int
 | 0=>0
 | n+1=>if f 0=0 then dK (fun k=>f (k+1)) n else f 0
theorem d9:∀{n:Nat} {f:Nat→Int} {k:Nat},k<n→(∀j,j<k→f j=0)→f k≠0→dK f n=f k
 | 0,_,_,h,_,_=>by omega
 | n+1,f,0,_,_,h=>by rw[dK,if_neg h]
 | n+1,f,k+1,hk,h0,h=>by
  rw[dK,if_pos (h0 0 (by omega))]
  exact d9 (f:=fun k=>f (k+1)) (k:=k) (by omega) (fun j hj=>h0 (j+1) (by omega)) h
theorem fq:∀{n:Nat} {f:Nat→Int},(∀j,j<n→f j=0)→dK f n=0
 | 0,_,_=>rfl
 | n+1,f,h=>by rw[dK,if_pos (h 0 (by omega))];exact fq fun j hj=>h (j+1) (by omega)
theorem kQ {n:Nat} {f:Nat→Int} (h:dK f n=0):∀j,j<n→f j=0:=by
 induction n generalizing f with
 | zero=>intro j hj;omega
 | succ n ih=>
  intro j hj
  rw[dK] at h
  by_cases h0:f 0=0
  ·rw[if_pos h0] at h
   cases j with
   | zero=>exact h0
   | succ j=>exact ih h j (by omega)
  ·rw[if_neg h0] at h;exact absurd h h0
def oM (l:List (List UInt8)) (k:Nat):Int:=if jA (l.getD k [])=false then 3 else if 24<(l.getD k []).length then 17 else if (l.take k).any (fun y=>l.getD k []==y)=true then 7 else 0
def kE (l:List (List UInt8)):Int:=if 256<l.length then 5 else dK (oM l) l.length
def aqI:Spec:=bQ (fun l:List (List UInt8)=>[ssA l]) (fun l=>∀s∈l,s.length≤1000000) (fun l=>iP (kE l))
theorem aif {l:List (List UInt8)} {k:Nat} (hk:k≤l.length):∀j,j<k→[sP (l.getD j [])]=[sP ((l.take k).getD j [])]:=by
 intro j hj
 rw[aa7,aa7,ai3,if_pos hj]
theorem amd:aK Tryz.prog 139 aqI:=by
 refine aX (Tb:=tab) mixed aA Tryz.func139 rfl rfl ?_
 rintro (l:List (List UInt8)) hpre
 refine ai (ai rfl (ai rfl rfl)) ?_
 have hpre:∀s∈l,s.length≤1000000:=hpre
 refine ah (p:=256<l.length) (av (by omega)) (fun h0=>?_) (fun h0=>?_)
 ·refine ai (ai (fun _=>trivial) ?_) trivial
  show aB _ (iP (kE l))
  rw[kE,if_pos h0]
  exact rfl
 have hA:kE l=dK (oM l) l.length:=by unfold kE;rw[if_neg h0]
 refine ei (bF.inv { X:=Nat,up:=fun k=>[(10,.s (iA k))],uo:=fun k=>[],inv:=fun k=>k≤l.length∧(∀j,j<k→oM l j=0),meas:=fun k=>l.length-k,x0:=0 }) ?_
 refine ai (ai (ai (by exact (a4 (ai rfl rfl))) (ai (by exact (ai (ai (fun _=>rfl) (iE (by simp only[zz,reduceCtorEq];rfl))) rfl)) (by exact trivial))) rfl) (ai (ai (ae4 _) ?_) ?_)
 ·exact fun j hj=>absurd hj (ai8 _)
 intro (k:Nat) ⟨hk,hall⟩
 refine ah (p:=k<l.length) (av (by omega)) (fun h1=>?_) (fun h1=>?_)
 ·refine ai (ai (abq _) (iN (n:=l.length) (by omega))) (ai rfl ?_)
  have hs:=hpre _ (acH (bH [] h1))
  have hz:=eF (l.getD k [])
  refine ei _ (ai (aoM) (ei (l.getD k []) (ei [] (ai (a4 (ai (fun _=>Or.inl rfl) (ai nof (Or.inl rfl)))) (ai (by exact rfl) (ai trivial (ai (hs) ?_)))))))
  refine aY (b:=!jA (l.getD k [])) rfl (fun h2=>?_) (fun h2=>?_)
  ·have h2:jA (l.getD k [])=false:=by simpa using h2
   have e:oM l k=3:=by unfold oM;rw[if_pos h2]
   refine ai (ai (fun _=>trivial) ?_) trivial
   show aB _ (iP (kE l))
   rw[hA,d9 h1 hall (by rw[e];decide),e]
   exact rfl
  have h2:¬jA (l.getD k [])=false:=by simpa using h2
  refine ah (p:=24<(l.getD k []).length) (by exact av (by show (24:Int)<((strOf (l.getD k [])).size:Int)↔_;rw[hz];omega)) (fun h3=>?_) (fun h3=>?_)
  ·have e:oM l k=17:=by unfold oM;rw[if_neg h2,if_pos h3]
   refine ai (ai (fun _=>trivial) ?_) trivial
   show aB _ (iP (kE l))
   rw[hA,d9 h1 hall (by rw[e];decide),e]
   exact rfl
  refine ai (ai (by decide) (ai (abq _) (by show (k:Int)≤(l.length:Int);omega))) (ai (fun _ _=>rfl) ?_)
  have htk:(l.take k).length=k:=by rw[aik];omega
  refine ei _ (ai (aiG) (ei ((l.take k,l.getD k [])) (ei [] (ai (a4 (ai (fun _=>Or.inl rfl) (ai nof (Or.inl rfl)))) (ai ?_ (ai (by exact trivial) (ai ((by show (l.take k).length≤1000000;omega)) ?_)))))))
  ·refine (ai (ai ?_ ?_) rfl)
   ·show ((k:Int).toNat-(0:Int).toNat)=(l.take k).length
    rw[htk];simp
   ·intro j hj
    have hj:j<(k:Int).toNat-(0:Int).toNat:=hj
    show [sP (l.getD ((0:Int).toNat+j) [])]=_
    rw[show (0:Int).toNat+j=j by simp]
    exact aif hk j (by simpa using hj)
  refine aY (b:=(l.take k).any (fun y=>l.getD k []==y)) rfl (fun h4=>?_) (fun h4=>?_)
  ·have e:oM l k=7:=by unfold oM;rw[if_neg h2,if_neg h3,if_pos h4]
   refine ai (ai (fun _=>trivial) ?_) trivial
   show aB _ (iP (kE l))
   rw[hA,d9 h1 hall (by rw[e];decide),e]
   exact rfl
  refine ei (k+1) (ai (ai rfl rfl) (ai (ai (ai rfl (ai (ai rfl rfl) (ai (ai rfl rfl) (ai (ai (ai (fun _=>rfl) (aO (by omega))) rfl) trivial)))) rfl) (ai (ai (iL (by omega)) ?_) (iM (by omega)))))
  intro j hj
  by_cases hjk:j=k
  ·subst hjk;unfold oM;rw[if_neg h2,if_neg h3,if_neg (by rw[h4];decide)]
  ·exact hall j (by omega)
 ·obtain rfl:k=l.length:=by omega
  refine ai (ai (fun _=>trivial) ?_) trivial
  show aB _ (iP (kE l))
  rw[hA,fq hall]
  exact rfl
end Go.Sx.Pe
namespace Go.Proofs
open Go.Shelf
def Tryz.aa6:Go.Shelf.Ren:=⟨fun | 156=>143 | 165=>173 | 166=>78 | 169=>84 | 240=>135 | 241=>206 | 276=>166 | 277=>222 | n=>n,fun | 31=>22 | 9=>9 | 3=>3 | 4=>4 | 0=>0 | 20=>20 | 72=>143 | 76=>146 | 70=>140 | 37=>141 | 75=>145 | 127=>206 | 164=>226 | 5=>5 | 80=>153 | n=>n,fun | n=>n⟩
theorem Tryz.ah8 : Go.Proofs.Lays.n156 Tryz.prog Tryz.aa6 := {
  mixed := by kernel_rfl
  f156 := Tryz.func143.trans (congrArg some (by kernel_rfl))
  f165 := Tryz.func173.trans (congrArg some (by kernel_rfl))
  f166 := Tryz.func78.trans (congrArg some (by kernel_rfl))
  f169 := Tryz.func84.trans (congrArg some (by kernel_rfl))
  f240 := Tryz.func135.trans (congrArg some (by kernel_rfl))
  f241 := Tryz.func206.trans (congrArg some (by kernel_rfl))
  f276 := Tryz.func166.trans (congrArg some (by kernel_rfl))
  f277 := Tryz.func222.trans (congrArg some (by kernel_rfl))
  t0 := Tryz.underlying0
  a0 := Tryz.isAgg0
  z0 := Tryz.sizeOf0
  v0 := Tryz.zeroValue0
  t3 := Tryz.underlying3
  a3 := Tryz.isAgg3
  z3 := Tryz.sizeOf3
  v3 := Tryz.zeroValue3
  t4 := Tryz.underlying4
  a4 := Tryz.isAgg4
  z4 := Tryz.sizeOf4
  v4 := Tryz.zeroValue4
  t9 := Tryz.underlying9
  a9 := Tryz.isAgg9
  z9 := Tryz.sizeOf9
  v9 := Tryz.zeroValue9
  t20 := Tryz.underlying20
  a20 := Tryz.isAgg20
  z20 := Tryz.sizeOf20
  v20 := Tryz.zeroValue20
  t31 := Tryz.underlying22
  a31 := Tryz.isAgg22
  z31 := Tryz.sizeOf22
  v31 := Tryz.zeroValue22
  t37 := Tryz.underlying141
  a37 := Tryz.isAgg141
  z37 := Tryz.sizeOf141
  v37 := Tryz.zeroValue141
  t70 := Tryz.underlying140
  a70 := Tryz.isAgg140
  z70 := Tryz.sizeOf140
  v70 := Tryz.zeroValue140
  t72 := Tryz.underlying143
  a72 := Tryz.isAgg143
  z72 := Tryz.sizeOf143
  v72 := Tryz.zeroValue143
  t75 := Tryz.underlying145
  a75 := Tryz.isAgg145
  z75 := Tryz.sizeOf145
  v75 := Tryz.zeroValue145
  t76 := Tryz.underlying146
  a76 := Tryz.isAgg146
  z76 := Tryz.sizeOf146
  v76 := Tryz.zeroValue146
  t127 := Tryz.underlying206
  a127 := Tryz.isAgg206
  z127 := Tryz.sizeOf206
  v127 := Tryz.zeroValue206
  t164 := Tryz.underlying226
  a164 := Tryz.isAgg226
  z164 := Tryz.sizeOf226
  v164 := Tryz.zeroValue226 }
theorem Tryz.rO : Builder.Extra Tryz.prog Tryz.aa6 := {
  sizeBuilder := by kernel_rfl
  liesBuilder := by kernel_rfl
  t5 := Tryz.underlying5
  a5 := Tryz.isAgg5
  z5 := Tryz.sizeOf5
  v5 := Tryz.zeroValue5
  infoByte := by kernel_rfl
  cellsByte := by kernel_rfl
  sizeByte := by kernel_rfl
  neB5 := by decide }
open Go.RowKit in
theorem Tryz.strings_Join_none (a:Option Addr) (c:Nat) (sep:ByteArray) (w:World) :
  Calls Tryz.prog 143 #[.slice a 0 c,.string sep] w fun e w'=>e=.returned (.string ⟨#[]⟩)∧w'=w:=Any.strings_Join_none Tryz.ah8 Tryz.rO a c sep w
open Go.RowKit in
theorem Tryz.strings_Join (bk o c:Nat) (xs:List ByteArray) (sep:ByteArray) (w:World) (hcells:∀(j:Nat) x,xs[j]?=some x→w.cell? ⟨bk,o+j,none⟩=some (.string x)) (hbk:bk<w.heap.size) (hN:xs.length≤140737488355328) (hcap:xs.length≤c) (hlen:(Lib.join (xs.map (·.data.toList)) sep.data.toList).length≤140737488355328) :
  Calls Tryz.prog 143 #[.slice (some ⟨bk,o,none⟩) xs.length c,.string sep] w fun e w'=>e=.returned (.string ⟨(Lib.join (xs.map (·.data.toList)) sep.data.toList).toArray⟩)∧Below w.heap.size w w':=Any.strings_Join Tryz.ah8 Tryz.rO bk o c xs sep w hcells hbk hN hcap hlen
def Tryz.ahu:Go.Shelf.Ren:=⟨fun | 171=>79 | 243=>136 | 246=>167 | 283=>197 | 284=>198 | 285=>199 | 286=>200 | 129=>193 | 317=>216 | 318=>217 | 319=>218 | 320=>219 | 337=>226 | 338=>227 | n=>n,fun | 3=>3 | 9=>9 | 2=>2 | 4=>4 | 171=>253 | 0=>0 | 53=>252 | 37=>141 | 5=>5 | 173=>255 | 212=>275 | 51=>250 | 20=>20 | 213=>276 | 46=>214 | 232=>292 | 233=>293 | n=>n,fun | 17=>0 | 18=>2 | 19=>3 | n=>n⟩
theorem Tryz.anu : Go.Proofs.LaysM.n171 Tryz.prog Tryz.ahu := {
  mixed := by kernel_rfl
  f129 := Tryz.func193.trans (congrArg some (by kernel_rfl))
  f171 := Tryz.func79.trans (congrArg some (by kernel_rfl))
  f243 := Tryz.func136.trans (congrArg some (by kernel_rfl))
  f246 := Tryz.func167.trans (congrArg some (by kernel_rfl))
  f283 := Tryz.func197.trans (congrArg some (by kernel_rfl))
  f284 := Tryz.func198.trans (congrArg some (by kernel_rfl))
  f285 := Tryz.func199.trans (congrArg some (by kernel_rfl))
  f286 := Tryz.func200.trans (congrArg some (by kernel_rfl))
  f317 := Tryz.func216.trans (congrArg some (by kernel_rfl))
  f318 := Tryz.func217.trans (congrArg some (by kernel_rfl))
  f319 := Tryz.func218.trans (congrArg some (by kernel_rfl))
  f320 := Tryz.func219.trans (congrArg some (by kernel_rfl))
  f337 := Tryz.func226.trans (congrArg some (by kernel_rfl))
  f338 := Tryz.func227.trans (congrArg some (by kernel_rfl))
  t0 := Tryz.underlying0
  a0 := Tryz.isAgg0
  z0 := Tryz.sizeOf0
  v0 := Tryz.zeroValue0
  t2 := Tryz.underlying2
  a2 := Tryz.isAgg2
  z2 := Tryz.sizeOf2
  v2 := Tryz.zeroValue2
  t3 := Tryz.underlying3
  a3 := Tryz.isAgg3
  z3 := Tryz.sizeOf3
  v3 := Tryz.zeroValue3
  t4 := Tryz.underlying4
  a4 := Tryz.isAgg4
  z4 := Tryz.sizeOf4
  v4 := Tryz.zeroValue4
  t5 := Tryz.underlying5
  a5 := Tryz.isAgg5
  z5 := Tryz.sizeOf5
  v5 := Tryz.zeroValue5
  t9 := Tryz.underlying9
  a9 := Tryz.isAgg9
  z9 := Tryz.sizeOf9
  v9 := Tryz.zeroValue9
  t20 := Tryz.underlying20
  a20 := Tryz.isAgg20
  z20 := Tryz.sizeOf20
  v20 := Tryz.zeroValue20
  t37 := Tryz.underlying141
  a37 := Tryz.isAgg141
  z37 := Tryz.sizeOf141
  v37 := Tryz.zeroValue141
  t46 := Tryz.underlying214
  a46 := Tryz.isAgg214
  z46 := Tryz.sizeOf214
  v46 := Tryz.zeroValue214
  t51 := Tryz.underlying250
  a51 := Tryz.isAgg250
  z51 := Tryz.sizeOf250
  v51 := Tryz.zeroValue250
  t53 := Tryz.underlying252
  a53 := Tryz.isAgg252
  z53 := Tryz.sizeOf252
  v53 := Tryz.zeroValue252
  t171 := Tryz.underlying253
  a171 := Tryz.isAgg253
  z171 := Tryz.sizeOf253
  v171 := Tryz.zeroValue253
  t173 := Tryz.underlying255
  a173 := Tryz.isAgg255
  z173 := Tryz.sizeOf255
  v173 := Tryz.zeroValue255
  t212 := Tryz.underlying275
  a212 := Tryz.isAgg275
  z212 := Tryz.sizeOf275
  v212 := Tryz.zeroValue275
  t213 := Tryz.underlying276
  a213 := Tryz.isAgg276
  z213 := Tryz.sizeOf276
  t232 := Tryz.underlying292
  a232 := Tryz.isAgg292
  z232 := Tryz.sizeOf292
  v232 := Tryz.zeroValue292
  t233 := Tryz.underlying293
  a233 := Tryz.isAgg293
  z233 := Tryz.sizeOf293
  v233 := Tryz.zeroValue293
  g17 := by kernel_rfl
  g18 := by kernel_rfl
  g19 := by kernel_rfl
  i0 := by kernel_rfl
  i2 := by kernel_rfl
  i3 := by kernel_rfl
  i4 := by kernel_rfl
  i5 := by kernel_rfl
  i9 := by kernel_rfl
  i20 := by kernel_rfl
  i37 := by kernel_rfl
  i46 := by kernel_rfl
  i51 := by kernel_rfl
  i53 := by kernel_rfl
  i171 := by kernel_rfl
  i173 := by kernel_rfl
  i212 := by kernel_rfl
  i232 := by kernel_rfl
  i233 := by kernel_rfl
  m17 := by kernel_rfl
  m18 := by kernel_rfl
  m19 := by kernel_rfl }
open Go.RowKit Go.Sort Go.Lib in
theorem Tryz.strconv_Itoa (n:Int) (h0:-9223372036854775808≤n) (h1:n≤9223372036854775807) (w:World) (htab:Lib.TabIs Tryz.prog w "internal/strconv.uint64pow10" .u64 Lib.pow10Tab) :
  Calls Tryz.prog 79 #[.int .i64 n] w fun e w'=>e=.returned (.string ⟨(Lib.itoa n).toArray⟩)∧∃k os,w'=grow (w.drewN k) os:=Any.strconv_Itoa Tryz.anu n h0 h1 w htab
def Tryz.ah1:Go.Shelf.Ren:=⟨fun | 171=>79 | 243=>136 | 246=>167 | 283=>197 | 284=>198 | 285=>199 | 286=>200 | 129=>193 | 317=>216 | 318=>217 | 319=>218 | 320=>219 | 337=>226 | 338=>227 | n=>n,fun | 3=>3 | 9=>9 | 2=>2 | 4=>4 | 171=>253 | 0=>0 | 53=>252 | 37=>141 | 5=>5 | 173=>255 | 212=>275 | 51=>250 | 20=>20 | 213=>276 | 46=>214 | 232=>292 | 233=>293 | n=>n,fun | 17=>0 | 18=>2 | 19=>3 | n=>n⟩
theorem Tryz.aoB : Go.Proofs.Lays.n171 Tryz.prog Tryz.ah1 := {
  mixed := by kernel_rfl
  f129 := Tryz.func193.trans (congrArg some (by kernel_rfl))
  f171 := Tryz.func79.trans (congrArg some (by kernel_rfl))
  f243 := Tryz.func136.trans (congrArg some (by kernel_rfl))
  f246 := Tryz.func167.trans (congrArg some (by kernel_rfl))
  f283 := Tryz.func197.trans (congrArg some (by kernel_rfl))
  f284 := Tryz.func198.trans (congrArg some (by kernel_rfl))
  f285 := Tryz.func199.trans (congrArg some (by kernel_rfl))
  f286 := Tryz.func200.trans (congrArg some (by kernel_rfl))
  f317 := Tryz.func216.trans (congrArg some (by kernel_rfl))
  f318 := Tryz.func217.trans (congrArg some (by kernel_rfl))
  f319 := Tryz.func218.trans (congrArg some (by kernel_rfl))
  f320 := Tryz.func219.trans (congrArg some (by kernel_rfl))
  f337 := Tryz.func226.trans (congrArg some (by kernel_rfl))
  f338 := Tryz.func227.trans (congrArg some (by kernel_rfl))
  t0 := Tryz.underlying0
  a0 := Tryz.isAgg0
  z0 := Tryz.sizeOf0
  v0 := Tryz.zeroValue0
  t2 := Tryz.underlying2
  a2 := Tryz.isAgg2
  z2 := Tryz.sizeOf2
  v2 := Tryz.zeroValue2
  t3 := Tryz.underlying3
  a3 := Tryz.isAgg3
  z3 := Tryz.sizeOf3
  v3 := Tryz.zeroValue3
  t4 := Tryz.underlying4
  a4 := Tryz.isAgg4
  z4 := Tryz.sizeOf4
  v4 := Tryz.zeroValue4
  t5 := Tryz.underlying5
  a5 := Tryz.isAgg5
  z5 := Tryz.sizeOf5
  v5 := Tryz.zeroValue5
  t9 := Tryz.underlying9
  a9 := Tryz.isAgg9
  z9 := Tryz.sizeOf9
  v9 := Tryz.zeroValue9
  t20 := Tryz.underlying20
  a20 := Tryz.isAgg20
  z20 := Tryz.sizeOf20
  v20 := Tryz.zeroValue20
  t37 := Tryz.underlying141
  a37 := Tryz.isAgg141
  z37 := Tryz.sizeOf141
  v37 := Tryz.zeroValue141
  t46 := Tryz.underlying214
  a46 := Tryz.isAgg214
  z46 := Tryz.sizeOf214
  v46 := Tryz.zeroValue214
  t51 := Tryz.underlying250
  a51 := Tryz.isAgg250
  z51 := Tryz.sizeOf250
  v51 := Tryz.zeroValue250
  t53 := Tryz.underlying252
  a53 := Tryz.isAgg252
  z53 := Tryz.sizeOf252
  v53 := Tryz.zeroValue252
  t171 := Tryz.underlying253
  a171 := Tryz.isAgg253
  z171 := Tryz.sizeOf253
  v171 := Tryz.zeroValue253
  t173 := Tryz.underlying255
  a173 := Tryz.isAgg255
  z173 := Tryz.sizeOf255
  v173 := Tryz.zeroValue255
  t212 := Tryz.underlying275
  a212 := Tryz.isAgg275
  z212 := Tryz.sizeOf275
  v212 := Tryz.zeroValue275
  t213 := Tryz.underlying276
  a213 := Tryz.isAgg276
  z213 := Tryz.sizeOf276
  t232 := Tryz.underlying292
  a232 := Tryz.isAgg292
  z232 := Tryz.sizeOf292
  v232 := Tryz.zeroValue292
  t233 := Tryz.underlying293
  a233 := Tryz.isAgg293
  z233 := Tryz.sizeOf293
  v233 := Tryz.zeroValue293
  g17 := by kernel_rfl
  g18 := by kernel_rfl
  g19 := by kernel_rfl }
open Go.RowKit Go.Sort Go.Lib in
theorem Tryz.strconv_Itoa_small (i:Nat) (hi:i<100) (w:World) :
  Calls Tryz.prog 79 #[.int .i64 i] w fun e w'=>e=.returned (.string ⟨(Lib.decDigits i).toArray⟩)∧w'=w:=Any.strconv_Itoa_small Tryz.aoB i hi w
def Tryz.ahY:Go.Shelf.Ren:=⟨fun | 144=>208 | 143=>223 | 219=>229 | 217=>237 | 225=>238 | 224=>239 | 267=>240 | 266=>245 | 314=>246 | n=>n,fun | 9=>9 | 4=>4 | 3=>3 | 5=>5 | 46=>214 | 146=>298 | 51=>250 | n=>n,fun | 1=>1 | n=>n⟩
theorem Tryz.aov : Go.Proofs.Lays.n144 Tryz.prog Tryz.ahY := {
  mixed := by kernel_rfl
  f143 := Tryz.func223.trans (congrArg some (by kernel_rfl))
  f144 := Tryz.func208.trans (congrArg some (by kernel_rfl))
  f217 := Tryz.func237.trans (congrArg some (by kernel_rfl))
  f219 := Tryz.func229.trans (congrArg some (by kernel_rfl))
  f224 := Tryz.func239.trans (congrArg some (by kernel_rfl))
  f225 := Tryz.func238.trans (congrArg some (by kernel_rfl))
  f266 := Tryz.func245.trans (congrArg some (by kernel_rfl))
  f267 := Tryz.func240.trans (congrArg some (by kernel_rfl))
  f314 := Tryz.func246.trans (congrArg some (by kernel_rfl))
  t3 := Tryz.underlying3
  a3 := Tryz.isAgg3
  z3 := Tryz.sizeOf3
  v3 := Tryz.zeroValue3
  t4 := Tryz.underlying4
  a4 := Tryz.isAgg4
  z4 := Tryz.sizeOf4
  v4 := Tryz.zeroValue4
  t5 := Tryz.underlying5
  a5 := Tryz.isAgg5
  z5 := Tryz.sizeOf5
  v5 := Tryz.zeroValue5
  t9 := Tryz.underlying9
  a9 := Tryz.isAgg9
  z9 := Tryz.sizeOf9
  v9 := Tryz.zeroValue9
  t46 := Tryz.underlying214
  a46 := Tryz.isAgg214
  z46 := Tryz.sizeOf214
  v46 := Tryz.zeroValue214
  t51 := Tryz.underlying250
  a51 := Tryz.isAgg250
  z51 := Tryz.sizeOf250
  v51 := Tryz.zeroValue250
  t146 := Tryz.underlying298
  a146 := Tryz.isAgg298
  z146 := Tryz.sizeOf298
  v146 := Tryz.zeroValue298
  g1 := by kernel_rfl }
open Go.RowKit Go.Lib in
theorem Tryz.strings_Contains_one (s:ByteArray) (c:UInt8) (w:World) :
  Calls Tryz.prog 208 #[.string s,.string ⟨#[c]⟩] w fun e w'=>e=.returned (.bool (decide (0≤Lib.indexByte s.data.toList c)))∧w'=w:=Any.strings_Contains_one Tryz.aov s c w
end Go.Proofs
namespace Go.Sx.Pe
open Go Go.Proofs Go.Sx.Pn
def kX (c:UInt8):Bool:=decide (48≤c.toNat)&&decide (c.toNat≤57)
def p9 (c:UInt8):Bool:=decide (97≤c.toNat)&&decide (c.toNat≤122)
def am6 (c:UInt8):Bool:=decide (65≤c.toNat)&&decide (c.toNat≤90)
def uz (c:UInt8):Bool:=kX c||p9 c||am6 c||decide (c.toNat=95)
def ano (c:UInt8):Bool:=[97,98,99,100,101,102,116,120,121,122].any (fun y:UInt8=>c==y)
def wD (c:UInt8):Bool:=decide (97≤c.toNat)&&decide (c.toNat≤102)
theorem ajO:aK Tryz.prog 178 (bQ (fun c:UInt8=>[cA c]) (fun _=>True) (fun c=>bP (uz c))):=by
 refine aX (Tb:=tab) mixed aA Tryz.func178 rfl rfl ?_
 rintro (c:UInt8) hpre
 refine ai (ai rfl (ai rfl rfl)) ?_
 repeat' (refine aZ (fun h=>?_) (fun h=>?_))
 all_goals
  refine ai (ai (fun _=>(by (repeat' (first | exact rfl | exact trivial | exact exE _ | exact arV _ | exact (fun _=>rfl) | exact (fun _ _=>rfl) | exact nof | refine ai ?_ ?_)))) ?_) trivial
  show (_:Bool)=uz c
  rw[arJ]
  simp only[afT,ap3,decide_eq_true_eq,decide_eq_false_iff_not,beq_iff_eq,beq_eq_false_iff_ne,ne_eq,kX,p9,am6,uz,wD,true_iff,iff_true,reduceCtorEq,false_iff] at *
  omega
def resE:List UInt8→Bool
 | []=>false
 | c :: t=>!t.isEmpty&&((ano c&&t.all kX)||(wD c&&(t==[112]||t==[109])))
theorem aeo:∀(l:List UInt8) (c:UInt8),decide (0≤Lib.indexByte l c)=l.any fun y=>c==y
 | [],c=>by simp[Lib.indexByte]
 | x :: l,c=>by
  have ih:=aeo l c
  have hge:=Lib.indexByte_ge l c
  unfold Lib.indexByte
  rw[asP]
  by_cases h:x=c
  ·subst h;simp
  ·rw[show (c==x)=false by simpa using fun e=>h e.symm,asx,←ih]
   simp only[beq_iff_eq,h,if_false]
   split
   ·rename_i h2;rw[h2]
   ·exact decide_eq_decide.2 (by omega)
theorem adZ:aK Tryz.prog 208 (bQ (fun a:List UInt8×UInt8=>[sA a.1,sA [a.2]]) (fun _=>True) (fun a=>bP (a.1.any fun y=>a.2==y))):=
 ag1 (aeR (α:=List UInt8×UInt8) Tryz.func208 rfl rfl (vals:=fun a=>[.string (strOf a.1),.string (strOf [a.2])]) (pre:=fun _=>True) (ret:=fun a=>.bool (decide (0≤Lib.indexByte a.1 a.2))) (fun _ _=>rfl)
  fun a _ w=>(Tryz.strings_Contains_one (strOf a.1) a.2 w).mono fun e w' h=>by
   obtain ⟨h1,h2⟩:=h
   subst h2
   exact ⟨h1,RowKit.Below.refl _ _⟩) id
  (fun _ _=>rfl) (fun _ _=>rfl) (fun _ _=>rfl) (fun a _=>by show PV.val (.bool (decide (0≤Lib.indexByte a.1 a.2)))=_;rw[aeo];rfl) (fun _ _=>trivial)
def uN (l:List UInt8) (k:Nat):PV:=bP (l.any fun y=>y.toNat==k)
theorem r9:∀(l:List Value) (k:Nat),kC (vals l) k=.val (l.getD k undef)
 | [],k=>rfl
 | v :: l,0=>rfl
 | v :: l,k+1=>by
  show kC (vals l) k=_
  rw[r9 l k];rfl
theorem adB (n:Nat) (v:Value) {k:Nat} (h:k<n):(List.replicate n v).getD k undef=v:=by
 rw[aa7,asu,if_pos h];rfl
theorem alx {l:List UInt8} {c:UInt8} (k:Nat):qb (uN l) c.toNat (bP true) k=uN (l++[c]) k:=by
 unfold qb uN
 rw[List.any_append]
 by_cases h:k=c.toNat
 ·rw[if_pos h];subst h;simp
 ·rw[if_neg h]
  have:(c.toNat==k)=false:=by simpa using fun e=>h e.symm
  simp[this]
def ap8:Spec:=bQ (fun l:List UInt8=>[sA l]) (fun l=>l.length≤1000∧∀y∈l,y.toNat<128) (fun l=>.tup [.arr 256 (uN l),bP true])
theorem ams:aK Tryz.prog 232 ap8:=by
 refine aX (Tb:=tab) mixed aA Tryz.func232 rfl rfl ?_
 rintro (l:List UInt8) hpre
 refine ai (ai rfl (ai rfl rfl)) ?_
 obtain ⟨hl,ha⟩:=hpre
 have hl:l.length≤1000:=hl
 have hz:=eF l
 refine ei (bF.inv { X:=Nat,up:=fun k=>[(4,.s (iA k))],uo:=fun k=>[⟨0,287,[.ob (.arr 287 256 (uN (l.take k)))]⟩],inv:=fun k=>k≤l.length∧(True),meas:=fun k=>l.length-k,x0:=0 }) ?_
 refine ai (ai (ai (by exact (a4 (ai rfl rfl))) (ai ?_ ?_)) rfl) (ai (ai (ae4 _) ?_) ?_)
 ·exact (ai (ai (fun _=>rfl) (iE (by simp only[zz,reduceCtorEq];rfl))) rfl)
 ·refine (ai (ai rfl (ai rfl ?_)) trivial)
  intro k hk
  show kC (vals (List.replicate 256 (.bool false))) k=_
  rw[r9,adB 256 _ hk];rfl
 ·trivial
 intro (k:Nat) ⟨hk,_⟩
 refine ah (p:=k<l.length) (by exact av (by rw[hz];omega)) (fun h1=>?_) (fun h1=>?_)
 ·refine ei (l.getD k 0) (ai (ai (abq _) (vW h1)) ?_)
  have hc:=ha _ (acH (bH 0 h1))
  refine ah (p:=128≤(l.getD k 0).toNat) (by exact gD (by omega)) (fun h2=>?_) (fun h2=>?_)
  ·omega
  refine ai (ai (abq _) (by show (((l.getD k 0).toNat:Nat):Int)<256;omega)) ?_
  refine ai (by show 0+(((l.getD k 0).toNat:Nat):Int).toNat*1<256;rw[aob];omega) ?_
  refine ei (k+1) (ai (ai rfl rfl) (ai (ai (ai rfl (ai (ai rfl rfl) (ai (ai rfl rfl) (ai (ai (ai (fun _=>rfl) (aO (by omega))) rfl) (ai (ai rfl (ai rfl ?_)) trivial))))) rfl) (ai (ai (iL (by omega)) trivial) (iM (by omega)))))
  intro j hj
  show qb (uN (l.take k)) (0+(((l.getD k 0).toNat:Nat):Int).toNat*1) (bP true) j=_
  rw[aob,anW,agC,alx,aU 0 h1]
 ·obtain rfl:k=l.length:=by omega
  rw[aga]
  refine ai (ai (fun _=>(by exact (ai (fun _ _=>rfl) trivial))) ?_) trivial
  exact (ai (ai rfl (fun _ _=>rfl)) rfl)
def eD (l:List UInt8) (c:UInt8):Bool:=l.any fun y=>y.toNat==c.toNat
def aq7:Spec:={ A:=List UInt8×UInt8,args:=fun a=>[.own 0 0,cA a.2],objs:=fun a=>[.arr 287 256 (uN a.1)],pre:=fun _=>True,res:=fun a=>bP (eD a.1 a.2),objs':=fun _=>[],fresh:=true,ro:=1 }
theorem aie:aK Tryz.prog 241 aq7:=by
 refine aX (Tb:=tab) mixed aA Tryz.func241 rfl rfl ?_
 rintro (a:List UInt8×UInt8) hpre
 refine ai (ai rfl (ai rfl rfl)) ?_
 have hc:a.2.toNat<256:=a.2.toNat_lt
 have e0:0+((a.2.toNat:Nat):Int).toNat*1=a.2.toNat:=by simp
 refine ai (ai (abq _) (by show ((a.2.toNat:Nat):Int)<256;omega)) ?_
 refine ai (by show 0+((a.2.toNat:Nat):Int).toNat*1<256;rw[e0];exact hc) ?_
 refine ai (ai (fun _=>trivial) ?_) trivial
 show (a.1.any fun y=>y.toNat==0+((a.2.toNat:Nat):Int).toNat*1)=_
 rw[e0];rfl
def rQ (p:UInt8→Bool) (s:List UInt8):Nat→Nat
 | 0=>0
 | k+1=>if p (s.getD k 0) then rQ p s k else k+1
def uT (p:UInt8→Bool) (s:List UInt8):List UInt8:=s.take (rQ p s s.length)
theorem afS (s:List UInt8) (k:Nat):(strOf s).extract 0 k=strOf (s.take k):=by
 apply ByteArray.ext
 simp[strOf]
theorem ags (s:List UInt8) (k:Nat):(strOf s).extract k (strOf s).size=strOf (s.drop k):=by
 apply ByteArray.ext
 have:(strOf s).size=s.length:=eF s
 rw[this]
 simp[strOf]
 rw[asB (by simp)]
def apV (g:List UInt8→List UInt8→List UInt8):Spec:={ A:=List UInt8×List UInt8,args:=fun a=>[sA a.2,.own 0 0],objs:=fun a=>[.arr 287 256 (uN a.1)],pre:=fun a=>a.2.length≤1000000,res:=fun a=>sP (g a.1 a.2),objs':=fun _=>[],fresh:=true,ro:=1 }
theorem amZ:aK Tryz.prog 234 (apV fun l s=>uT (eD l) s):=by
 refine aX (Tb:=tab) mixed aA Tryz.func234 rfl rfl ?_
 rintro (a:List UInt8×List UInt8) hpre
 refine ai (ai rfl (ai rfl rfl)) ?_
 have hl:a.2.length≤1000000:=hpre
 refine ei (bF.inv { X:=Nat,up:=fun k=>[(0,.s (sA (a.2.take k)))],uo:=fun _=>[],inv:=fun k=>k≤a.2.length∧rQ (eD a.1) a.2 a.2.length=rQ (eD a.1) a.2 k,meas:=fun k=>k,x0:=a.2.length }) ?_
 refine ai (ai (ai (by exact (a4 (ai rfl rfl))) (ai ?_ ?_)) ?_) (ai ?_ ?_)
 ·refine (ai (ai nof ?_) rfl)
  show strOf a.2=strOf (a.2.take a.2.length)
  rw[aga]
 ·exact trivial
 ·rfl
 ·exact ⟨afM _,rfl⟩
 intro (k:Nat) ⟨hk,hinv⟩
 have htl:(a.2.take k).length=k:=by rw[aik];omega
 have hz:(strOf (a.2.take k)).size=k:=by rw[eF,htl]
 refine ah (p:=0<k) (by exact av (by show (0:Int)<(((strOf (a.2.take k)).size:Nat):Int)↔_;rw[hz];omega)) (fun h1=>?_) (fun h1=>?_)
 ·obtain ⟨k,rfl⟩:∃j,k=j+1:=⟨k-1,by omega⟩
  have hw:IntKind.i64.wrap ((((strOf (a.2.take (k+1))).size:Nat):Int)-1)=(k:Int):=by rw[hz,mJ (by omega) (by omega)];omega
  have hg:(a.2.take (k+1)).getD k 0=a.2.getD k 0:=by rw[aa7,aa7,ai3,if_pos (by omega)]
  refine ei (a.2.getD k 0) (ai (ai (by rw[hw];exact abq _) (by rw[hw,←hg];exact vW (by omega))) ?_)
  refine ei _ (ai (aie) (ei ((a.1,a.2.getD k 0)) (ei [0] (ai (a4 (ai (fun _=>Or.inl rfl) (ai nof (Or.inl rfl)))) (ai (by exact (ai (ai rfl rfl) rfl)) (ai (by exact (ai rfl (ai rfl (fun _ _=>rfl)))) (ai (trivial) ?_)))))))
  have hT:rQ (eD a.1) a.2 (k+1)=if eD a.1 (a.2.getD k 0) then rQ (eD a.1) a.2 k else k+1:=rfl
  refine aY (b:=!eD a.1 (a.2.getD k 0)) rfl (fun h2=>?_) (fun h2=>?_)
  ·have h2:eD a.1 (a.2.getD k 0)=false:=by simpa using h2
   have e:uT (eD a.1) a.2=a.2.take (k+1):=by
    unfold uT;rw[hinv,hT,h2];rfl
   refine ai (ai (fun _=>trivial) ?_) trivial
   show aB _ (sP (uT (eD a.1) a.2))
   rw[e]
   exact rfl
  ·have h2:eD a.1 (a.2.getD k 0)=true:=by simpa using h2
   refine ai (ai (by decide) (ai (by rw[hw];exact abq _) (by rw[hw,hz];omega))) ?_
   refine ei (k) (ai (ai rfl rfl) (ai (ai ?_ ?_) (ai ?_ ?_)))
   ·refine (ai rfl (ai (ai rfl rfl) (ai (ai rfl rfl) (ai (ai (ai (fun _=>rfl) ?_) rfl) trivial))))
    show (strOf (a.2.take (k+1))).extract 0 (IntKind.i64.wrap ((((strOf (a.2.take (k+1))).size:Nat):Int)-1)).toNat=strOf (a.2.take k)
    rw[hw,aob,afS,atb,asW (by omega)]
   ·rfl
   ·exact ⟨by omega,by rw[hinv,hT,h2];rfl⟩
   ·show k<k+1;omega
 ·obtain rfl:k=0:=by omega
  have e:uT (eD a.1) a.2=a.2.take 0:=by
   unfold uT;rw[hinv];rfl
  refine ai (ai (fun _=>trivial) ?_) trivial
  show aB _ (sP (uT (eD a.1) a.2))
  rw[e]
  exact rfl
theorem amu:aK Tryz.prog 233 (apV fun l s=>s.dropWhile (eD l)):=by
 refine aX (Tb:=tab) mixed aA Tryz.func233 rfl rfl ?_
 rintro (a:List UInt8×List UInt8) hpre
 refine ai (ai rfl (ai rfl rfl)) ?_
 have hl:a.2.length≤1000000:=hpre
 refine ei (bF.inv { X:=Nat,up:=fun k=>[(0,.s (sA (a.2.drop k)))],uo:=fun _=>[],inv:=fun k=>k≤a.2.length∧a.2.dropWhile (eD a.1)=(a.2.drop k).dropWhile (eD a.1),meas:=fun k=>a.2.length-k,x0:=0 }) ?_
 refine ai (ai (ai (by exact (a4 (ai rfl rfl))) (ai ?_ ?_)) ?_) (ai ?_ ?_)
 ·exact (ai (ai nof rfl) rfl)
 ·exact trivial
 ·rfl
 ·exact ⟨ae4 _,rfl⟩
 intro (k:Nat) ⟨hk,hinv⟩
 have htl:(a.2.drop k).length=a.2.length-k:=aql
 have hz:(strOf (a.2.drop k)).size=a.2.length-k:=by rw[eF,htl]
 refine ah (p:=k<a.2.length) (by exact av (by show (0:Int)<(((strOf (a.2.drop k)).size:Nat):Int)↔_;rw[hz];omega)) (fun h1=>?_) (fun h1=>?_)
 ·have hcons:a.2.drop k=a.2.getD k 0 :: a.2.drop (k+1):=by
   rw[anU h1,aa7,abb h1];rfl
  refine ei (a.2.getD k 0) (ai (ai (by decide) (by rw[hcons];rfl)) ?_)
  refine ei _ (ai (aie) (ei ((a.1,a.2.getD k 0)) (ei [0] (ai (a4 (ai (fun _=>Or.inl rfl) (ai nof (Or.inl rfl)))) (ai (by exact (ai (ai rfl rfl) rfl)) (ai (by exact (ai rfl (ai rfl (fun _ _=>rfl)))) (ai (trivial) ?_)))))))
  refine aY (b:=!eD a.1 (a.2.getD k 0)) rfl (fun h2=>?_) (fun h2=>?_)
  ·have h2:eD a.1 (a.2.getD k 0)=false:=by simpa using h2
   have e:a.2.dropWhile (eD a.1)=a.2.drop k:=by
    rw[hinv,hcons,atw,if_neg (by rw[h2];decide)]
   refine ai (ai (fun _=>trivial) ?_) trivial
   show aB _ (sP (a.2.dropWhile (eD a.1)))
   rw[e]
   exact rfl
  ·have h2:eD a.1 (a.2.getD k 0)=true:=by simpa using h2
   refine ai (ai (by decide) (ai (by rw[hz];omega) (aty _))) ?_
   refine ei ((k+1)) (ai (ai rfl rfl) (ai (ai ?_ ?_) (ai ?_ ?_)))
   ·refine (ai rfl (ai (ai rfl rfl) (ai (ai rfl rfl) (ai (ai (ai (fun _=>rfl) ?_) rfl) trivial))))
    show (strOf (a.2.drop k)).extract 1 ((((strOf (a.2.drop k)).size:Nat):Int)).toNat=strOf (a.2.drop (k+1))
    rw[aob,ags,List.drop_drop]
   ·rfl
   ·exact ⟨h1,by rw[hinv,hcons,atw,if_pos h2]⟩
   ·show a.2.length-(k+1)<a.2.length-k;omega
 ·have e:a.2.dropWhile (eD a.1)=a.2.drop k:=by
   rw[hinv,asU (by omega)];rfl
  refine ai (ai (fun _=>trivial) ?_) trivial
  show aB _ (sP (a.2.dropWhile (eD a.1)))
  rw[e]
  exact rfl
def rG:List UInt8:=[48,49,50,51,52,53,54,55,56,57]
def afq (s:List UInt8):List UInt8:=(uT (eD rG) s).dropWhile (eD rG)
theorem apr:aK Tryz.prog 224 (bQ (fun s:List UInt8=>[sA s,sA rG]) (fun s=>s.length≤1000000) (fun s=>sP (afq s))):=by
 refine aX (Tb:=tab) mixed aA Tryz.func224 rfl rfl ?_
 rintro (s:List UInt8) hpre
 refine ai (ai rfl (ai rfl rfl)) ?_
 have hl:s.length≤1000000:=hpre
 refine ah (p:=s=[]) (by show (s==[])=true↔_;exact beq_iff_eq) (fun h1=>?_) (fun h1=>?_)
 ·subst h1
  refine ai (ai (fun _=>trivial) ?_) trivial
  exact rfl
 refine ei _ (ai (ams) (ei (rG) (ei [] (ai (a4 (ai (fun _=>Or.inl rfl) (ai nof (Or.inl rfl)))) (ai (by exact rfl) (ai trivial (ai (⟨by show rG.length≤1000;decide,by decide⟩) ?_)))))))
 refine ei _ (ai (amZ) (ei ((rG,s)) (ei [0] (ai (a4 (ai (fun _=>Or.inl rfl) (ai nof (Or.inl rfl)))) (ai (by exact (ai rfl (ai rfl rfl))) (ai (by exact (ai rfl (ai rfl (fun _ _=>rfl)))) (ai (hl) ?_)))))))
 refine ei _ (ai (amu) (ei ((rG,uT (eD rG) s)) (ei [0] (ai (a4 (ai (fun _=>Or.inl rfl) (ai nof (Or.inl rfl)))) (ai (by exact (ai rfl (ai rfl rfl))) (ai (by exact (ai rfl (ai rfl (fun _ _=>rfl)))) (ai ((by show (uT (eD rG) s).length≤1000000;unfold uT;rw[aik];omega)) ?_)))))))
 refine ai (ai (fun _=>trivial) ?_) trivial
 exact rfl
theorem anB (c:UInt8):eD rG c=kX c:=by
 rw[arJ]
 unfold eD rG kX
 simp only[asP,atu,asY,ap3,afT,beq_iff_eq,decide_eq_true_eq]
 have h48:(48:UInt8).toNat=48:=rfl
 have h49:(49:UInt8).toNat=49:=rfl
 have h50:(50:UInt8).toNat=50:=rfl
 have h51:(51:UInt8).toNat=51:=rfl
 have h52:(52:UInt8).toNat=52:=rfl
 have h53:(53:UInt8).toNat=53:=rfl
 have h54:(54:UInt8).toNat=54:=rfl
 have h55:(55:UInt8).toNat=55:=rfl
 have h56:(56:UInt8).toNat=56:=rfl
 have h57:(57:UInt8).toNat=57:=rfl
 omega
theorem aiP {p:UInt8→Bool} {s:List UInt8}:∀{k:Nat},(∀j,j<k→p (s.getD j 0)=true)→rQ p s k=0
 | 0,_=>rfl
 | k+1,h=>by rw[rQ,if_pos (h k (by omega))];exact aiP fun j hj=>h j (by omega)
theorem aic {p:UInt8→Bool} {s:List UInt8}:∀{k:Nat},rQ p s k≠0→∃j,rQ p s k=j+1∧p (s.getD j 0)=false∧j<k
 | 0,h=>absurd rfl h
 | k+1,h=>by
  by_cases hp:p (s.getD k 0)=true
  ·rw[rQ,if_pos hp] at h ⊢
   obtain ⟨j,h1,h2,h3⟩:=aic h
   exact ⟨j,h1,h2,by omega⟩
  ·rw[rQ,if_neg hp]
   exact ⟨k,rfl,by simpa using hp,by omega⟩
theorem aew {p:UInt8→Bool}:∀{l:List UInt8},l.dropWhile p=[]↔∀x∈l,p x=true
 | []=>by simp
 | y :: l=>by
  rw[atw]
  by_cases h:p y=true
  ·rw[if_pos h,aew];simp[h]
  ·rw[if_neg h];simp[h]
theorem akD (s:List UInt8):(afq s==[])=s.all kX:=by
 have hset:eD rG=kX:=funext anB
 unfold afq
 rw[hset,arJ,beq_iff_eq,aew,alM]
 constructor
 ·intro h
  by_cases h0:rQ kX s s.length=0
  ·intro x hx
   refine Classical.byContradiction fun hn=>?_
   obtain ⟨k,hk,rfl⟩:=an4 hx
   have:∀m,k<m→rQ kX s m≠0:=by
    intro m hm
    induction m with
    | zero=>omega
    | succ m ih=>
     rw[rQ]
     by_cases e:k=m
     ·subst e
      rw[if_neg (by rw[aa7,abb hk];exact hn)]
      omega
     ·split
      ·exact ih (by omega)
      ·omega
   exact this _ hk h0
  ·obtain ⟨j,h1,h2,h3⟩:=aic h0
   have:s.getD j 0∈uT kX s:=by
    unfold uT
    rw[h1,aU 0 h3];simp
   have:=h _ this
   rw[h2] at this;cases this
 ·intro h x hx
  have:rQ kX s s.length=0:=aiP fun j hj=>h _ (acH (bH 0 hj))
  unfold uT at hx
  rw[this] at hx;simp at hx
theorem ak4:aK Tryz.prog 209 (bQ (fun s:List UInt8=>[sA s]) (fun s=>s.length≤1000000) (fun s=>bP (!s.isEmpty&&s.all kX))):=by
 refine aX (Tb:=tab) mixed aA Tryz.func209 rfl rfl ?_
 rintro (s:List UInt8) hpre
 refine ai (ai rfl (ai rfl rfl)) ?_
 have hl:s.length≤1000000:=hpre
 refine bI (p:=s=[]) (by show (s != [])=true↔_;exact bne_iff_ne) (fun h1=>?_) (fun h1=>?_)
 ·refine ei _ (ai (apr) (ei (s) (ei [] (ai (a4 (ai (fun _=>Or.inl rfl) (ai nof (Or.inl rfl)))) (ai (by exact (ai rfl rfl)) (ai trivial (ai (hl) ?_)))))))
  have h2:s.isEmpty=false:=by cases s with | nil=>exact absurd rfl h1 | cons x l=>rfl
  refine ai (ai (fun _=>trivial) ?_) trivial
  show aB _ (bP (!s.isEmpty&&s.all kX))
  rw[show (!s.isEmpty&&s.all kX)=(afq s==[]) by rw[h2,akD];rfl]
  exact rfl
 ·refine ai (ai (fun _=>trivial) ?_) trivial
  show aB _ (bP (!s.isEmpty&&s.all kX))
  rw[show (!s.isEmpty&&s.all kX)=false by rw[h1];rfl]
  exact rfl
theorem aiu (c:UInt8):(([97,98,99,100,101,102]:List UInt8).any fun y=>c==y)=wD c:=by
 rw[arJ]
 unfold wD
 have h97:(97:UInt8).toNat=97:=rfl
 have h98:(98:UInt8).toNat=98:=rfl
 have h99:(99:UInt8).toNat=99:=rfl
 have h100:(100:UInt8).toNat=100:=rfl
 have h101:(101:UInt8).toNat=101:=rfl
 have h102:(102:UInt8).toNat=102:=rfl
 simp only[asP,atu,asY,ap3,afT,beq_iff_eq,decide_eq_true_eq,←UInt8.toNat_inj]
 omega
theorem apx:aK Tryz.prog 177 (bQ (fun s:List UInt8=>[sA s]) (fun s=>s.length≤1000000) (fun s=>bP (resE s))):=by
 refine aX (Tb:=tab) mixed aA Tryz.func177 rfl rfl ?_
 rintro (s:List UInt8) hpre
 refine ai (ai rfl (ai rfl rfl)) ?_
 have hl:s.length≤1000000:=hpre
 refine ah (p:=s=[]) (by show (s==[])=true↔_;exact beq_iff_eq) (fun h1=>?_) (fun h1=>?_)
 ·subst h1
  refine ai (ai (fun _=>trivial) ?_) trivial
  exact rfl
 obtain ⟨c,t,rfl⟩:∃c t,s=c :: t:=by
  cases s with
  | nil=>exact absurd rfl h1
  | cons c t=>exact ⟨c,t,rfl⟩
 have hz:(strOf (c :: t)).size=t.length+1:=by rw[eF];rfl
 have e1:(strOf (c :: t)).extract (0:Int).toNat (1:Int).toNat=strOf [c]:=afS (c :: t) 1
 have e2:(strOf (c :: t)).extract (1:Int).toNat ((((strOf (c :: t)).size:Nat):Int)).toNat=strOf t:=by rw[aob];exact ags (c :: t) 1
 have hR:resE (c :: t)=(!t.isEmpty&&((ano c&&t.all kX)||(wD c&&(t==[112]||t==[109])))):=rfl
 have b1:(0:Int)≤0∧(0:Int)≤1∧(1:Int)≤(((strOf (c :: t)).size:Nat):Int):=⟨by decide,by decide,by rw[hz];omega⟩
 have b2:(0:Int)≤1∧(1:Int)≤(((strOf (c :: t)).size:Nat):Int)∧(((strOf (c :: t)).size:Nat):Int)≤(((strOf (c :: t)).size:Nat):Int):=⟨by decide,by rw[hz];omega,aty _⟩
 have ht:t.length≤1000000:=by simp at hl;omega
 have e3:∀y:UInt8,(((strOf (c :: t)).extract (1:Int).toNat ((((strOf (c :: t)).size:Nat):Int)).toNat).data.toList==[y])=true↔t=[y]:=fun y=>by rw[e2];exact beq_iff_eq
 refine ai b1 ?_
 refine ei _ (ai (adZ) (ei (([97,98,99,100,101,102,116,120,121,122],c)) (ei [] (ai (a4 (ai (fun _=>Or.inl rfl) (ai nof (Or.inl rfl)))) (ai ?_ (ai (by exact trivial) (ai (trivial) ?_)))))))
 ·refine (ai rfl ?_)
  exact e1
 refine ah (p:=ano c=true) (by exact Iff.rfl) (fun h2=>?_) (fun h2=>?_)
 ·refine ai b2 ?_
  refine ei _ (ai (ak4) (ei (t) (ei [] (ai (a4 (ai (fun _=>Or.inl rfl) (ai nof (Or.inl rfl)))) (ai ?_ (ai (by exact trivial) (ai (ht) ?_)))))))
  ·skip
   exact e2
  refine ah (p:=(!t.isEmpty&&t.all kX)=true) (by exact Iff.rfl) (fun h3=>?_) (fun h3=>?_)
  ·refine ai (ai (fun _=>trivial) ?_) trivial
   show aB _ (bP (resE (c :: t)))
   rw[show resE (c :: t)=true by rw[hR,h2];simp at h3 ⊢;exact ⟨h3.1,.inl h3.2⟩]
   exact rfl
  ·have hN:resE (c :: t)=(wD c&&(t==[112]||t==[109])):=by
    rw[hR]
    cases t with
    | nil=>simp
    | cons y t=>
     have h3:¬((y :: t).all kX)=true:=fun e=>h3 (by rw[e];rfl)
     rw[arH.2 h3];simp
   refine ai b1 ?_
   refine ei _ (ai (adZ) (ei (([97,98,99,100,101,102],c)) (ei [] (ai (a4 (ai (fun _=>Or.inl rfl) (ai nof (Or.inl rfl)))) (ai ?_ (ai (by exact trivial) (ai (trivial) ?_)))))))
   ·refine (ai rfl ?_)
    exact e1
   refine ah (p:=wD c=true) (by rw[aiu]) (fun h4=>?_) (fun h4=>?_)
   ·refine ai b2 ?_
    refine ah (p:=t=[112]) (by exact e3 112) (fun h5=>?_) (fun h5=>?_)
    ·refine ai (ai (fun _=>trivial) ?_) trivial
     show aB _ (bP (resE (c :: t)))
     rw[hN,h4,h5]
     exact rfl
    ·refine ai b2 ?_
     refine ai (ai (fun _=>trivial) ?_) trivial
     show aB _ (bP (resE (c :: t)))
     rw[hN,h4,e2]
     skip
     show (t==[109])=(true&&(t==[112]||t==[109]))
     rw[show (t==[112])=false by simpa using h5];rfl
   ·refine ai (ai (fun _=>trivial) ?_) trivial
    show aB _ (bP (resE (c :: t)))
    rw[hN,arH.2 h4,aqd]
    exact rfl
 ·have hN:resE (c :: t)=(wD c&&(t==[112]||t==[109])):=by
   rw[hR,arH.2 h2]
   cases t with
   | nil=>simp
   | cons y t=>simp
  refine ai b1 ?_
  refine ei _ (ai (adZ) (ei (([97,98,99,100,101,102],c)) (ei [] (ai (a4 (ai (fun _=>Or.inl rfl) (ai nof (Or.inl rfl)))) (ai ?_ (ai (by exact trivial) (ai (trivial) ?_)))))))
  ·refine (ai rfl ?_)
   exact e1
  refine ah (p:=wD c=true) (by rw[aiu]) (fun h4=>?_) (fun h4=>?_)
  ·refine ai b2 ?_
   refine ah (p:=t=[112]) (by exact e3 112) (fun h5=>?_) (fun h5=>?_)
   ·refine ai (ai (fun _=>trivial) ?_) trivial
    show aB _ (bP (resE (c :: t)))
    rw[hN,h4,h5]
    exact rfl
   ·refine ai b2 ?_
    refine ai (ai (fun _=>trivial) ?_) trivial
    show aB _ (bP (resE (c :: t)))
    rw[hN,h4,e2]
    skip
    show (t==[109])=(true&&(t==[112]||t==[109]))
    rw[show (t==[112])=false by simpa using h5];rfl
  ·refine ai (ai (fun _=>trivial) ?_) trivial
   show aB _ (bP (resE (c :: t)))
   rw[hN,arH.2 h4,aqd]
   exact rfl
def iY (s:List UInt8):Int:=if 24<s.length then 17 else if s.isEmpty||!p9 (s.getD 0 0)||resE s then 3 else if s.all uz then 0 else 3
theorem aoG:aK Tryz.prog 146 (bQ (fun s:List UInt8=>[sA s]) (fun s=>True) (fun s=>iP (iY s))):=by
 refine aX (Tb:=tab) mixed aA Tryz.func146 rfl rfl ?_
 rintro (s:List UInt8) hpre
 refine ai (ai rfl (ai rfl rfl)) ?_
 have hz:=eF s
 refine ah (p:=24<s.length) (by exact av (by rw[hz];omega)) (fun h1=>?_) (fun h1=>?_)
 ·refine ai (ai (fun _=>trivial) ?_) trivial
  show aB _ (iP (iY s))
  rw[iY,if_pos h1]
  exact rfl
 have hN:iY s=if s.isEmpty||!p9 (s.getD 0 0)||resE s then 3 else if s.all uz then 0 else 3:=by unfold iY;rw[if_neg h1]
 refine ah (p:=s=[]) (by show (s==[])=true↔_;exact beq_iff_eq) (fun h2=>?_) (fun h2=>?_)
 ·refine ai (ai (fun _=>trivial) ?_) trivial
  show aB _ (iP (iY s))
  rw[show iY s=3 by rw[hN,h2];rfl]
  exact rfl
 have hp:0<s.length:=atv.2 h2
 have he:s.isEmpty=false:=by cases s with | nil=>exact absurd rfl h2 | cons x l=>rfl
 have i0:(strOf s)[(0:Int).toNat]?=some (s.getD 0 0):=vW hp
 refine ei (s.getD 0 0) (ai (ai (by decide) i0) ?_)
 refine ah (p:=(s.getD 0 0).toNat<97) (av (by omega)) (fun h3=>?_) (fun h3=>?_)
 ·have hsF:p9 (s.getD 0 0)=false:=by unfold p9;rw[decide_eq_false (by omega)];rfl
  refine ai (ai (fun _=>trivial) ?_) trivial
  show aB _ (iP (iY s))
  rw[show iY s=3 by rw[hN,he,hsF];simp]
  exact rfl
 refine ei (s.getD 0 0) (ai (ai (by decide) i0) ?_)
 refine ah (p:=122<(s.getD 0 0).toNat) (av (by omega)) (fun h4=>?_) (fun h4=>?_)
 ·have hsF:p9 (s.getD 0 0)=false:=by unfold p9;rw[decide_eq_false (show ¬(s.getD 0 0).toNat≤122 by omega)];simp
  refine ai (ai (fun _=>trivial) ?_) trivial
  show aB _ (iP (iY s))
  rw[show iY s=3 by rw[hN,he,hsF];simp]
  exact rfl
 have hs:p9 (s.getD 0 0)=true:=by unfold p9;rw[decide_eq_true (by omega),decide_eq_true (by omega)];rfl
 rw[he,hs,Bool.not_true,asx,asx] at hN
 refine ei _ (ai (apx) (ei (s) (ei [] (ai (a4 (ai (fun _=>Or.inl rfl) (ai nof (Or.inl rfl)))) (ai (by exact rfl) (ai trivial (ai ((by show s.length≤1000000;omega)) ?_)))))))
 refine aY (b:=resE s) rfl (fun h5=>?_) (fun h5=>?_)
 ·refine ai (ai (fun _=>trivial) ?_) trivial
  show aB _ (iP (iY s))
  rw[hN,if_pos h5]
  exact rfl
 rw[if_neg (by rw[h5];decide)] at hN
 refine ei (bF.inv { X:=Nat,up:=fun k=>[(25,.s (iA k))],uo:=fun k=>[],inv:=fun k=>k≤s.length∧(∀c∈s.take k,uz c=true),meas:=fun k=>s.length-k,x0:=0 }) ?_
 refine ai (ai (ai (by exact (a4 (ai rfl rfl))) (ai (by exact (ai (ai (fun _=>rfl) (iE (by simp only[zz,reduceCtorEq];rfl))) rfl)) (by exact trivial))) rfl) (ai (ai (ae4 _) ?_) ?_)
 ·exact fun y hy=>absurd hy (by simp)
 intro (k:Nat) ⟨hk,hall⟩
 refine ah (p:=k<s.length) (by exact av (by rw[hz];omega)) (fun h6=>?_) (fun h6=>?_)
 ·refine ei (s.getD k 0) (ai (ai (abq _) (vW h6)) ?_)
  refine ei _ (ai (ajO) (ei (s.getD k 0) (ei [] (ai (a4 (ai (fun _=>Or.inl rfl) (ai nof (Or.inl rfl)))) (ai (by exact rfl) (ai trivial (ai (trivial) ?_)))))))
  refine aY (b:=!uz (s.getD k 0)) rfl (fun h7=>?_) (fun h7=>?_)
  ·have h8:s.all uz=false:=by
    rw[atF]
    exact ⟨s.getD k 0,acH (bH 0 h6),by simpa using h7⟩
   refine ai (ai (fun _=>trivial) ?_) trivial
   show aB _ (iP (iY s))
   rw[hN,if_neg (show ¬s.all uz=true by rw[h8];decide)]
   exact rfl
  refine ei (k+1) (ai (ai rfl rfl) (ai (ai (ai rfl (ai (ai rfl rfl) (ai (ai rfl rfl) (ai (ai (ai (fun _=>rfl) (aO (by omega))) rfl) trivial)))) rfl) (ai (ai (iL (by omega)) ?_) (iM (by omega)))))
  intro y hy
  rw[aU 0 h6] at hy
  rcases ahi.1 hy with hy | hy
  ·exact hall y hy
  ·simp only[agb] at hy;subst hy;simpa using h7
 ·obtain rfl:k=s.length:=by omega
  rw[aga] at hall
  refine ai (ai (fun _=>trivial) ?_) trivial
  show aB _ (iP (iY s))
  rw[hN,if_pos (alM.2 hall)]
  exact rfl
def inE (l:List (List UInt8)) (k:Nat):Int:=if ¬iY (l.getD k [])=0 then iY (l.getD k []) else if (l.take k).any (fun y=>l.getD k []==y)=true then 7 else 0
def gu (l:List (List UInt8)):Int:=if 16<l.length then 5 else dK (inE l) l.length
def apg:Spec:=bQ (fun l:List (List UInt8)=>[ssA l]) (fun _=>True) (fun l=>iP (gu l))
theorem alp:aK Tryz.prog 89 apg:=by
 refine aX (Tb:=tab) mixed aA Tryz.func89 rfl rfl ?_
 rintro (l:List (List UInt8)) hpre
 refine ai (ai rfl (ai rfl rfl)) ?_
 refine ah (p:=16<l.length) (av (by omega)) (fun h0=>?_) (fun h0=>?_)
 ·refine ai (ai (fun _=>trivial) ?_) trivial
  show aB _ (iP (gu l))
  rw[gu,if_pos h0]
  exact rfl
 have hA:gu l=dK (inE l) l.length:=by unfold gu;rw[if_neg h0]
 refine ei (bF.inv { X:=Nat,up:=fun k=>[(11,.s (iA k))],uo:=fun k=>[],inv:=fun k=>k≤l.length∧(∀j,j<k→inE l j=0),meas:=fun k=>l.length-k,x0:=0 }) ?_
 refine ai (ai (ai (by exact (a4 (ai rfl rfl))) (ai (by exact (ai (ai (fun _=>rfl) (iE (by simp only[zz,reduceCtorEq];rfl))) rfl)) (by exact trivial))) rfl) (ai (ai (ae4 _) ?_) ?_)
 ·exact fun j hj=>absurd hj (ai8 _)
 intro (k:Nat) ⟨hk,hall⟩
 refine ah (p:=k<l.length) (av (by omega)) (fun h1=>?_) (fun h1=>?_)
 ·refine ai (ai (abq _) (iN (n:=l.length) (by omega))) (ai rfl ?_)
  refine ei _ (ai (aoG) (ei (l.getD k []) (ei [] (ai (a4 (ai (fun _=>Or.inl rfl) (ai nof (Or.inl rfl)))) (ai (by exact rfl) (ai trivial (ai (trivial) ?_)))))))
  refine bI (p:=iY (l.getD k [])=0) (dh (by omega)) (fun h2=>?_) (fun h2=>?_)
  ·have e:inE l k=iY (l.getD k []):=by unfold inE;rw[if_pos h2]
   refine ai (ai (fun _=>trivial) ?_) trivial
   show aB _ (iP (gu l))
   rw[hA,d9 h1 hall (by rw[e];exact h2),e]
   exact rfl
  refine ai (ai (by decide) (ai (abq _) (by show (k:Int)≤(l.length:Int);omega))) (ai (fun _ _=>rfl) ?_)
  have htk:(l.take k).length=k:=by rw[aik];omega
  refine ei _ (ai (aiG) (ei ((l.take k,l.getD k [])) (ei [] (ai (a4 (ai (fun _=>Or.inl rfl) (ai nof (Or.inl rfl)))) (ai ?_ (ai (by exact trivial) (ai ((by show (l.take k).length≤1000000;omega)) ?_)))))))
  ·refine (ai (ai ?_ ?_) rfl)
   ·show ((k:Int).toNat-(0:Int).toNat)=(l.take k).length
    rw[htk];simp
   ·intro j hj
    have hj:j<(k:Int).toNat-(0:Int).toNat:=hj
    show [sP (l.getD ((0:Int).toNat+j) [])]=_
    rw[show (0:Int).toNat+j=j by simp]
    exact aif hk j (by simpa using hj)
  refine aY (b:=(l.take k).any (fun y=>l.getD k []==y)) rfl (fun h4=>?_) (fun h4=>?_)
  ·have e:inE l k=7:=by unfold inE;rw[if_neg (fun h=>h h2),if_pos h4]
   refine ai (ai (fun _=>trivial) ?_) trivial
   show aB _ (iP (gu l))
   rw[hA,d9 h1 hall (by rw[e];decide),e]
   exact rfl
  refine ei (k+1) (ai (ai rfl rfl) (ai (ai (ai rfl (ai (ai rfl rfl) (ai (ai rfl rfl) (ai (ai (ai (fun _=>rfl) (aO (by omega))) rfl) trivial)))) rfl) (ai (ai (iL (by omega)) ?_) (iM (by omega)))))
  intro j hj
  by_cases hjk:j=k
  ·subst hjk;unfold inE;rw[if_neg (fun h=>h h2),if_neg (by rw[h4];decide)]
  ·exact hall j (by omega)
 ·obtain rfl:k=l.length:=by omega
  refine ai (ai (fun _=>trivial) ?_) trivial
  show aB _ (iP (gu l))
  rw[hA,fq hall]
  exact rfl
theorem ru {α:Type} {p:α→Bool} {l:List α} {k:Nat} {d:α} (h:k<l.length) (hp:p (l.getD k d)=true):l.any p=true:=
 arN.2 ⟨_,acH (bH d h),hp⟩
def nJ (act:Int) (l:List Sk) (k:Nat):Int:=if (l.getD k aR).1<0∨act≤(l.getD k aR).1 then 2 else if 0<k∧(l.getD k aR).1≤(l.getD (k-1) aR).1 then 9 else 0
def iQ (act:Int) (s:Stp):Int:=if ¬dK (nJ act s.st) s.st.length=0 then dK (nJ act s.st) s.st.length else if s.wt<0∨1000000<s.wt then 2 else 0
def arB:Spec:=bQ (fun a:aW×Stp=>[kU a.1,stA a.2]) (fun a=>a.2.st.length≤1000000) (fun a=>iP (iQ a.1.act a.2))
theorem step_ok:aK Tryz.prog 90 arB:=by
 refine aX (Tb:=tab) mixed aA Tryz.func90 rfl rfl ?_
 rintro (a:aW×Stp) hpre
 refine ai (ai rfl (ai rfl rfl)) ?_
 have hl:a.2.st.length≤1000000:=hpre
 refine ei (bF.inv { X:=Nat,up:=fun k=>[(10,.s (iA k))],uo:=fun k=>[],inv:=fun k=>k≤a.2.st.length∧(∀j,j<k→nJ a.1.act a.2.st j=0),meas:=fun k=>a.2.st.length-k,x0:=0 }) ?_
 refine ai (ai (ai (by exact (a4 (ai rfl rfl))) (ai (by exact (ai (ai (fun _=>rfl) (iE (by simp only[zz,reduceCtorEq];rfl))) rfl)) (by exact trivial))) rfl) (ai (ai (ae4 _) ?_) ?_)
 ·exact fun j hj=>absurd hj (ai8 _)
 intro (k:Nat) ⟨hk,hall⟩
 refine ah (p:=k<a.2.st.length) (av (by omega)) (fun h1=>?_) (fun h1=>?_)
 ·refine ai (ai (abq _) (iN (n:=a.2.st.length) (by omega))) (ai rfl ?_)
  refine ah (p:=(a.2.st.getD k aR).1<0) (av Iff.rfl) (fun h2=>?_) (fun h2=>?_)
  ·have e:nJ a.1.act a.2.st k=2:=by unfold nJ;rw[if_pos (by omega)]
   have e2:dK (nJ a.1.act a.2.st) a.2.st.length=2:=(d9 h1 hall (by rw[e];decide)).trans e
   refine ai (ai (fun _=>trivial) ?_) trivial
   show aB _ (iP (iQ a.1.act a.2))
   rw[iQ,if_pos (show ¬dK (nJ a.1.act a.2.st) a.2.st.length=0 by rw[e2];decide),e2]
   exact rfl
  refine ah (p:=a.1.act≤(a.2.st.getD k aR).1) (gD Iff.rfl) (fun h3=>?_) (fun h3=>?_)
  ·have e:nJ a.1.act a.2.st k=2:=by unfold nJ;rw[if_pos (by omega)]
   have e2:dK (nJ a.1.act a.2.st) a.2.st.length=2:=(d9 h1 hall (by rw[e];decide)).trans e
   refine ai (ai (fun _=>trivial) ?_) trivial
   show aB _ (iP (iQ a.1.act a.2))
   rw[iQ,if_pos (show ¬dK (nJ a.1.act a.2.st) a.2.st.length=0 by rw[e2];decide),e2]
   exact rfl
  refine ei (.seq [0,1,2,3,4,5,6,7,8,9,10,11,12,13,14]) (ai (by kernel_rfl) ?_)
  refine ah (p:=0<k) (av (by omega)) (fun h4=>?_) (fun h4=>?_)
  ·have hw:IntKind.i64.wrap ((k:Int)-1)=((k-1:Nat):Int):=anq h4 (by omega)
   refine ai (ai (by rw[hw];exact abq _) (by rw[hw];show ((k-1:Nat):Int)<(a.2.st.length:Int);omega)) ?_
   refine ai rfl ?_
   refine ah (p:=(a.2.st.getD k aR).1≤(a.2.st.getD (k-1) aR).1) (by exact gD (by rw[hw];exact Iff.rfl)) (fun h5=>?_) (fun h5=>?_)
   ·have e:nJ a.1.act a.2.st k=9:=by unfold nJ;rw[if_neg (by omega),if_pos ⟨h4,h5⟩]
    have e2:dK (nJ a.1.act a.2.st) a.2.st.length=9:=(d9 h1 hall (by rw[e];decide)).trans e
    refine ai (ai (fun _=>trivial) ?_) trivial
    show aB _ (iP (iQ a.1.act a.2))
    rw[iQ,if_pos (show ¬dK (nJ a.1.act a.2.st) a.2.st.length=0 by rw[e2];decide),e2]
    exact rfl
   ·refine ei (k+1) (ai (ai rfl rfl) (ai (ai (ai rfl (ai (ai rfl rfl) (ai (ai rfl rfl) (ai (ai (ai (fun _=>rfl) (aO (by omega))) rfl) trivial)))) rfl) (ai (ai (iL (by omega)) ?_) (iM (by omega)))))
    intro j hj
    by_cases hjk:j=k
    ·subst hjk;unfold nJ;rw[if_neg (by omega),if_neg (fun h=>h5 h.2)]
    ·exact hall j (by omega)
  ·refine ei (k+1) (ai (ai rfl rfl) (ai (ai (ai rfl (ai (ai rfl rfl) (ai (ai rfl rfl) (ai (ai (ai (fun _=>rfl) (aO (by omega))) rfl) trivial)))) rfl) (ai (ai (iL (by omega)) ?_) (iM (by omega)))))
   intro j hj
   by_cases hjk:j=k
   ·subst hjk;unfold nJ;rw[if_neg (by omega),if_neg (fun h=>h4 h.1)]
   ·exact hall j (by omega)
 ·obtain rfl:k=a.2.st.length:=by omega
  have e2:dK (nJ a.1.act a.2.st) a.2.st.length=0:=fq hall
  have hA:iQ a.1.act a.2=if a.2.wt<0∨1000000<a.2.wt then 2 else 0:=by unfold iQ;rw[if_neg (fun h=>h e2)]
  refine ah (p:=a.2.wt<0) (av (by omega)) (fun h6=>?_) (fun h6=>?_)
  ·refine ai (ai (fun _=>trivial) ?_) trivial
   show aB _ (iP (iQ a.1.act a.2))
   rw[hA,if_pos (.inl h6)]
   exact rfl
  refine ah (p:=1000000<a.2.wt) (av (by omega)) (fun h7=>?_) (fun h7=>?_)
  ·refine ai (ai (fun _=>trivial) ?_) trivial
   show aB _ (iP (iQ a.1.act a.2))
   rw[hA,if_pos (.inr h7)]
   exact rfl
  ·refine ai (ai (fun _=>trivial) ?_) trivial
   show aB _ (iP (iQ a.1.act a.2))
   rw[hA,if_neg (fun h=>h.elim h6 h7)]
   exact rfl
def uM (n:Nat) (l:List Int) (k:Nat):Int:=if l.getD k 0<0∨(n:Int)≤l.getD k 0 then 2 else if 0<k∧l.getD k 0≤l.getD (k-1) 0 then 9 else 0
def kI (n:Nat) (l:List Int):Int:=if l.length=0 then 13 else dK (uM n l) l.length
def asi:Spec:=bQ (fun a:aW×List Int=>[kU a.1,isA a.2]) (fun a=>a.2.length≤1000000) (fun a=>iP (kI a.1.sts.length a.2))
theorem aeN:aK Tryz.prog 148 asi:=by
 refine aX (Tb:=tab) mixed aA Tryz.func148 rfl rfl ?_
 rintro (a:aW×List Int) hpre
 refine ai (ai rfl (ai rfl rfl)) ?_
 have hl:a.2.length≤1000000:=hpre
 refine ah (p:=a.2.length=0) (iI (by omega)) (fun h0=>?_) (fun h0=>?_)
 ·refine ai (ai (fun _=>trivial) ?_) trivial
  show aB _ (iP (kI a.1.sts.length a.2))
  rw[kI,if_pos h0]
  exact rfl
 have hA:kI a.1.sts.length a.2=dK (uM a.1.sts.length a.2) a.2.length:=by unfold kI;rw[if_neg h0]
 refine ei (bF.inv { X:=Nat,up:=fun k=>[(12,.s (iA k))],uo:=fun k=>[],inv:=fun k=>k≤a.2.length∧(∀j,j<k→uM a.1.sts.length a.2 j=0),meas:=fun k=>a.2.length-k,x0:=0 }) ?_
 refine ai (ai (ai (by exact (a4 (ai rfl rfl))) (ai (by exact (ai (ai (fun _=>rfl) (iE (by simp only[zz,reduceCtorEq];rfl))) rfl)) (by exact trivial))) rfl) (ai (ai (ae4 _) ?_) ?_)
 ·exact fun j hj=>absurd hj (ai8 _)
 intro (k:Nat) ⟨hk,hall⟩
 refine ah (p:=k<a.2.length) (av (by omega)) (fun h1=>?_) (fun h1=>?_)
 ·skip
  refine ai (ai (abq _) (iN (n:=a.2.length) (by omega))) (ai rfl ?_)
  refine ah (p:=a.2.getD k 0<0) (av Iff.rfl) (fun h2=>?_) (fun h2=>?_)
  ·have e:uM a.1.sts.length a.2 k=2:=by unfold uM;rw[if_pos (by omega)]
   refine ai (ai (fun _=>trivial) ?_) trivial
   show aB _ (iP (kI a.1.sts.length a.2))
   rw[hA,d9 h1 hall (by rw[e];decide),e]
   exact rfl
  skip
  refine ah (p:=(a.1.sts.length:Int)≤a.2.getD k 0) (gD Iff.rfl) (fun h3=>?_) (fun h3=>?_)
  ·have e:uM a.1.sts.length a.2 k=2:=by unfold uM;rw[if_pos (by omega)]
   refine ai (ai (fun _=>trivial) ?_) trivial
   show aB _ (iP (kI a.1.sts.length a.2))
   rw[hA,d9 h1 hall (by rw[e];decide),e]
   exact rfl
  skip
  refine ah (p:=0<k) (av (by omega)) (fun h4=>?_) (fun h4=>?_)
  ·have hw:IntKind.i64.wrap ((k:Int)-1)=((k-1:Nat):Int):=anq h4 (by omega)
   skip
   refine ai (ai (by rw[hw];exact abq _) (by rw[hw];show ((k-1:Nat):Int)<(a.2.length:Int);omega)) ?_
   refine ai rfl ?_
   refine ah (p:=a.2.getD k 0≤a.2.getD (k-1) 0) (by exact gD (by rw[hw];exact Iff.rfl)) (fun h5=>?_) (fun h5=>?_)
   ·have e:uM a.1.sts.length a.2 k=9:=by unfold uM;rw[if_neg (by omega),if_pos ⟨h4,h5⟩]
    refine ai (ai (fun _=>trivial) ?_) trivial
    show aB _ (iP (kI a.1.sts.length a.2))
    rw[hA,d9 h1 hall (by rw[e];decide),e]
    exact rfl
   ·refine ei (k+1) (ai (ai rfl rfl) (ai (ai (ai rfl (ai (ai rfl rfl) (ai (ai rfl rfl) (ai (ai (ai (fun _=>rfl) (aO (by omega))) rfl) trivial)))) rfl) (ai (ai (iL (by omega)) ?_) (iM (by omega)))))
    intro j hj
    by_cases hjk:j=k
    ·subst hjk;unfold uM;rw[if_neg (by omega),if_neg (fun h=>h5 h.2)]
    ·exact hall j (by omega)
  ·refine ei (k+1) (ai (ai rfl rfl) (ai (ai (ai rfl (ai (ai rfl rfl) (ai (ai rfl rfl) (ai (ai (ai (fun _=>rfl) (aO (by omega))) rfl) trivial)))) rfl) (ai (ai (iL (by omega)) ?_) (iM (by omega)))))
   intro j hj
   by_cases hjk:j=k
   ·subst hjk;unfold uM;rw[if_neg (by omega),if_neg (fun h=>h4 h.1)]
   ·exact hall j (by omega)
 ·obtain rfl:k=a.2.length:=by omega
  refine ai (ai (fun _=>trivial) ?_) trivial
  show aB _ (iP (kI a.1.sts.length a.2))
  rw[hA,fq hall]
  exact rfl
def qy (c:aW):Int:=2*c.act+c.ins.length+c.sts.length
def acA (c:aW):Prop:=0≤c.act∧c.act≤1000∧c.ins.length≤1000000∧c.sts.length≤1000000
def aro:Spec:=bQ (fun c:aW=>[kU c]) acA (fun c=>iP (qy c))
theorem apv:aK Tryz.prog 149 aro:=by
 refine aX (Tb:=tab) mixed aA Tryz.func149 rfl rfl ?_
 rintro (c:aW) hpre
 refine ai (ai rfl (ai rfl rfl)) ?_
 obtain ⟨h1,h2,h3,h4⟩:=hpre
 have h1:0≤c.act:=h1
 have h2:c.act≤1000:=h2
 have h3:c.ins.length≤1000000:=h3
 have h4:c.sts.length≤1000000:=h4
 refine ai (ai (fun _=>trivial) ?_) trivial
 show IntKind.i64.wrap (IntKind.i64.wrap (IntKind.i64.wrap (2*c.act)+(c.ins.length:Int))+(c.sts.length:Int))=qy c
 rw[mJ (n:=2*c.act) (by omega) (by omega),mJ (n:=2*c.act+(c.ins.length:Int)) (by omega) (by omega),mJ (by omega) (by omega)];rfl
def lN (c:aW) (t:kM):Int:=if ¬kI c.sts.length t.fr=0 then kI c.sts.length t.fr else if ¬kI c.sts.length t.to=0 then kI c.sts.length t.to else eH t.wh (qy c)
def ajz (t:kM):Prop:=t.fr.length≤1000000∧t.to.length≤1000000∧t.wh.size≤1000000
def ar9:Spec:=bQ (fun a:aW×kM=>[kU a.1,trA a.2]) (fun a=>acA a.1∧ajz a.2) (fun a=>iP (lN a.1 a.2))
theorem aqe:aK Tryz.prog 91 ar9:=by
 refine aX (Tb:=tab) mixed aA Tryz.func91 rfl rfl ?_
 rintro (a:aW×kM) hpre
 refine ai (ai rfl (ai rfl rfl)) ?_
 obtain ⟨hs,h1,h2,h3⟩:=hpre
 refine ei (bF.unroll 3) ?_
 refine ai (by decide) ?_
 refine ai (by decide) ?_
 refine ei _ (ai (aeN) (ei ((a.1,a.2.fr)) (ei [] (ai (a4 (ai (fun _=>Or.inl rfl) (ai nof (Or.inl rfl)))) (ai (by exact (ai (ai rfl (ai (ai rfl (fun _ _=>rfl)) (ai (ai rfl (fun _ _=>rfl)) (ai rfl (fun _ _=>rfl))))) (ai rfl (fun _ _=>rfl)))) (ai trivial (ai (h1) ?_)))))))
 refine bI (p:=kI a.1.sts.length a.2.fr=0) (dh (by dsimp only;omega)) (fun g1=>?_) (fun g1=>?_)
 ·refine ai (ai (fun _=>trivial) ?_) trivial
  show aB _ (iP (lN a.1 a.2))
  rw[lN,if_pos g1]
  exact rfl
 refine ai (by decide) ?_
 refine ai (by decide) ?_
 refine ei _ (ai (aeN) (ei ((a.1,a.2.to)) (ei [] (ai (a4 (ai (fun _=>Or.inl rfl) (ai nof (Or.inl rfl)))) (ai (by exact (ai (ai rfl (ai (ai rfl (fun _ _=>rfl)) (ai (ai rfl (fun _ _=>rfl)) (ai rfl (fun _ _=>rfl))))) (ai rfl (fun _ _=>rfl)))) (ai trivial (ai (h2) ?_)))))))
 refine bI (p:=kI a.1.sts.length a.2.to=0) (dh (by dsimp only;omega)) (fun g2=>?_) (fun g2=>?_)
 ·refine ai (ai (fun _=>trivial) ?_) trivial
  show aB _ (iP (lN a.1 a.2))
  rw[lN,if_neg (fun h=>h g1),if_pos g2]
  exact rfl
 refine ei (.seq [0,1,2,3,4,5]) (ai (by kernel_rfl) ?_)
 refine ei _ (ai (apv) (ei (a.1) (ei [] (ai (a4 (ai (fun _=>Or.inl rfl) (ai nof (Or.inl rfl)))) (ai (by exact (ai rfl (ai (ai rfl (fun _ _=>rfl)) (ai (ai rfl (fun _ _=>rfl)) (ai rfl (fun _ _=>rfl)))))) (ai trivial (ai (hs) ?_)))))))
 refine ei _ (ai (afH) (ei ((a.2.wh,qy a.1)) (ei [] (ai (a4 (ai (fun _=>Or.inl rfl) (ai nof (Or.inl rfl)))) (ai (by exact (ai (ai rfl (ai rfl (ai rfl (fun _ _=>rfl)))) rfl)) (ai trivial (ai (h3) ?_)))))))
 refine ai (ai (fun _=>trivial) ?_) trivial
 show aB _ (iP (lN a.1 a.2))
 rw[lN,if_neg (fun h=>h g1),if_neg (fun h=>h g2)]
 exact rfl
def am1:Spec:=bQ (fun a:aW×List Stp=>[.p false (akr a.2),.p false (.bnd 90 [sU a.1])]) (fun a=>a.2.length≤1000000∧∀s∈a.2,s.st.length≤1000000) (fun a=>iP (dK (fun k=>iQ a.1.act (a.2.getD k st0)) a.2.length))
theorem ajJ:aK Tryz.prog 92 am1:=by
 refine aX (Tb:=tab) mixed aA Tryz.func92 rfl rfl ?_
 rintro (a:aW×List Stp) hpre
 refine ai (ai rfl (ai rfl rfl)) ?_
 obtain ⟨hl,hs⟩:=hpre
 have hl:a.2.length≤1000000:=hl
 refine ei (bF.inv { X:=Nat,up:=fun k=>[(10,.s (iA k))],uo:=fun k=>[],inv:=fun k=>k≤a.2.length∧(∀j,j<k→iQ a.1.act (a.2.getD j st0)=0),meas:=fun k=>a.2.length-k,x0:=0 }) ?_
 refine ai (ai (ai (by exact (a4 (ai rfl rfl))) (ai (by exact (ai (ai (fun _=>rfl) (iE (by simp only[zz,reduceCtorEq];rfl))) rfl)) (by exact trivial))) rfl) (ai (ai (ae4 _) ?_) ?_)
 ·exact fun j hj=>absurd hj (ai8 _)
 intro (k:Nat) ⟨hk,hall⟩
 refine ah (p:=k<a.2.length) (av (by omega)) (fun h1=>?_) (fun h1=>?_)
 ·refine ai (ai (abq _) (iN (n:=a.2.length) (by omega))) (ai rfl ?_)
  refine ei _ (ai (step_ok) (ei ((a.1,a.2.getD k st0)) (ei [] (ai (a4 (ai (fun _=>Or.inl rfl) (ai nof (Or.inl rfl)))) (ai (by exact (ai (ai rfl (ai (ai rfl (fun _ _=>rfl)) (ai (ai rfl (fun _ _=>rfl)) (ai rfl (fun _ _=>rfl))))) (ai (ai rfl (fun _ _=>rfl)) (iE (by simp only[zz,reduceCtorEq]))))) (ai trivial (ai (hs _ (acH (bH st0 h1))) ?_)))))))
  refine bI (p:=iQ a.1.act (a.2.getD k st0)=0) (dh (by dsimp only;omega)) (fun h2=>?_) (fun h2=>?_)
  ·refine ai (ai (fun _=>trivial) ?_) trivial
   show aB _ (iP (dK (fun k=>iQ a.1.act (a.2.getD k st0)) a.2.length))
   rw[d9 h1 hall h2]
   exact rfl
  refine ei (k+1) (ai (ai rfl rfl) (ai (ai (ai rfl (ai (ai rfl rfl) (ai (ai rfl rfl) (ai (ai (ai (fun _=>rfl) (aO (by omega))) rfl) trivial)))) rfl) (ai (ai (iL (by omega)) ?_) (iM (by omega)))))
  intro j hj
  by_cases hjk:j=k
  ·subst hjk;exact h2
  ·exact hall j (by omega)
 ·obtain rfl:k=a.2.length:=by omega
  refine ai (ai (fun _=>trivial) ?_) trivial
  show aB _ (iP (dK (fun k=>iQ a.1.act (a.2.getD k st0)) a.2.length))
  rw[fq hall]
  exact rfl
def amT:Spec:=bQ (fun a:aW×List kM=>[.p false (aqu a.2),.p false (.bnd 91 [sU a.1])]) (fun a=>a.2.length≤1000000∧acA a.1∧∀s∈a.2,ajz s) (fun a=>iP (dK (fun k=>lN a.1 (a.2.getD k bB)) a.2.length))
theorem akl:aK Tryz.prog 93 amT:=by
 refine aX (Tb:=tab) mixed aA Tryz.func93 rfl rfl ?_
 rintro (a:aW×List kM) hpre
 refine ai (ai rfl (ai rfl rfl)) ?_
 obtain ⟨hl,hc,hs⟩:=hpre
 have hl:a.2.length≤1000000:=hl
 refine ei (bF.inv { X:=Nat,up:=fun k=>[(10,.s (iA k))],uo:=fun k=>[],inv:=fun k=>k≤a.2.length∧(∀j,j<k→lN a.1 (a.2.getD j bB)=0),meas:=fun k=>a.2.length-k,x0:=0 }) ?_
 refine ai (ai (ai (by exact (a4 (ai rfl rfl))) (ai (by exact (ai (ai (fun _=>rfl) (iE (by simp only[zz,reduceCtorEq];rfl))) rfl)) (by exact trivial))) rfl) (ai (ai (ae4 _) ?_) ?_)
 ·exact fun j hj=>absurd hj (ai8 _)
 intro (k:Nat) ⟨hk,hall⟩
 refine ah (p:=k<a.2.length) (av (by omega)) (fun h1=>?_) (fun h1=>?_)
 ·refine ai (ai (abq _) (iN (n:=a.2.length) (by omega))) (ai rfl ?_)
  refine ei _ (ai (aqe) (ei ((a.1,a.2.getD k bB)) (ei [] (ai (a4 (ai (fun _=>Or.inl rfl) (ai nof (Or.inl rfl)))) (ai (by exact (ai (ai rfl (ai (ai rfl (fun _ _=>rfl)) (ai (ai rfl (fun _ _=>rfl)) (ai rfl (fun _ _=>rfl))))) (ai (ai rfl (fun _ _=>rfl)) (ai (ai rfl (fun _ _=>rfl)) (ai (iE (by simp only[zz,reduceCtorEq])) (ai (iE (by simp only[zz,reduceCtorEq])) (ai rfl (fun _ _=>rfl)))))))) (ai trivial (ai (⟨hc,hs _ (acH (bH bB h1))⟩) ?_)))))))
  refine bI (p:=lN a.1 (a.2.getD k bB)=0) (dh (by dsimp only;omega)) (fun h2=>?_) (fun h2=>?_)
  ·refine ai (ai (fun _=>trivial) ?_) trivial
   show aB _ (iP (dK (fun k=>lN a.1 (a.2.getD k bB)) a.2.length))
   rw[d9 h1 hall h2]
   exact rfl
  refine ei (k+1) (ai (ai rfl rfl) (ai (ai (ai rfl (ai (ai rfl rfl) (ai (ai rfl rfl) (ai (ai (ai (fun _=>rfl) (aO (by omega))) rfl) trivial)))) rfl) (ai (ai (iL (by omega)) ?_) (iM (by omega)))))
  intro j hj
  by_cases hjk:j=k
  ·subst hjk;exact h2
  ·exact hall j (by omega)
 ·obtain rfl:k=a.2.length:=by omega
  refine ai (ai (fun _=>trivial) ?_) trivial
  show aB _ (iP (dK (fun k=>lN a.1 (a.2.getD k bB)) a.2.length))
  rw[fq hall]
  exact rfl
def bO (c:aW):Int:=
 if c.act<1∨6<c.act then 2 else if ¬gu c.ins=0 then gu c.ins else if c.sts.length=0 then 13 else if 24<c.sts.length∨32<c.trs.length then 5 else
 if ¬dK (fun k=>iQ c.act (c.sts.getD k st0)) c.sts.length=0 then dK (fun k=>iQ c.act (c.sts.getD k st0)) c.sts.length else dK (fun k=>lN c (c.trs.getD k bB)) c.trs.length
def jf (c:aW):Prop:=(∀s∈c.sts,s.st.length≤1000000)∧∀t∈c.trs,ajz t
theorem wI {l:List (List UInt8)} (h:gu l=0):l.length≤16:=by
 unfold gu at h
 split at h
 ·cases h
 ·omega
def aso:Spec:=bQ (fun c:aW=>[kU c]) jf (fun c=>iP (bO c))
theorem afA:aK Tryz.prog 26 aso:=by
 refine aX (Tb:=tab) mixed aA Tryz.func26 rfl rfl ?_
 rintro (c:aW) hpre
 refine ai (ai rfl (ai rfl rfl)) ?_
 obtain ⟨hst,htr⟩:=hpre
 refine ah (p:=c.act<1) (av (by omega)) (fun h1=>?_) (fun h1=>?_)
 ·refine ai (ai (fun _=>trivial) ?_) trivial
  show aB _ (iP (bO c))
  rw[bO,if_pos (.inl h1)]
  exact rfl
 refine ah (p:=6<c.act) (av (by omega)) (fun h2=>?_) (fun h2=>?_)
 ·refine ai (ai (fun _=>trivial) ?_) trivial
  show aB _ (iP (bO c))
  rw[bO,if_pos (.inr h2)]
  exact rfl
 have e0:¬(c.act<1∨6<c.act):=fun h=>h.elim h1 h2
 refine ei _ (ai (alp) (ei (c.ins) (ei [] (ai (a4 (ai (fun _=>Or.inl rfl) (ai nof (Or.inl rfl)))) (ai (by exact (ai rfl (fun _ _=>rfl))) (ai trivial (ai (trivial) ?_)))))))
 refine bI (p:=gu c.ins=0) (dh (by omega)) (fun h3=>?_) (fun h3=>?_)
 ·refine ai (ai (fun _=>trivial) ?_) trivial
  show aB _ (iP (bO c))
  rw[bO,if_neg e0,if_pos h3]
  exact rfl
 have h16:=wI h3
 have e1:¬¬gu c.ins=0:=fun h=>h h3
 refine ah (p:=c.sts.length=0) (iI (by omega)) (fun h4=>?_) (fun h4=>?_)
 ·refine ai (ai (fun _=>trivial) ?_) trivial
  show aB _ (iP (bO c))
  rw[bO,if_neg e0,if_neg e1,if_pos h4]
  exact rfl
 refine ah (p:=24<c.sts.length) (av (by omega)) (fun h5=>?_) (fun h5=>?_)
 ·refine ai (ai (fun _=>trivial) ?_) trivial
  show aB _ (iP (bO c))
  rw[bO,if_neg e0,if_neg e1,if_neg h4,if_pos (.inl h5)]
  exact rfl
 refine ah (p:=32<c.trs.length) (av (by omega)) (fun h6=>?_) (fun h6=>?_)
 ·refine ai (ai (fun _=>trivial) ?_) trivial
  show aB _ (iP (bO c))
  rw[bO,if_neg e0,if_neg e1,if_neg h4,if_pos (.inr h6)]
  exact rfl
 have e2:¬(24<c.sts.length∨32<c.trs.length):=fun h=>h.elim h5 h6
 refine ei (.seq [0,1,2,3,4,5]) (ai (by kernel_rfl) ?_)
 refine ei _ (ai (ajJ) (ei ((c,c.sts)) (ei [] (ai (a4 (ai (fun _=>Or.inl rfl) (ai nof (Or.inl rfl)))) (ai (by exact (ai (ai rfl (fun _ _=>rfl)) (ai rfl rfl))) (ai trivial (ai (⟨by show c.sts.length≤1000000;omega,hst⟩) ?_)))))))
 refine bI (p:=dK (fun k=>iQ c.act (c.sts.getD k st0)) c.sts.length=0) (dh (by dsimp only;omega)) (fun h7=>?_) (fun h7=>?_)
 ·refine ai (ai (fun _=>trivial) ?_) trivial
  show aB _ (iP (bO c))
  rw[bO,if_neg e0,if_neg e1,if_neg h4,if_neg e2,if_pos h7]
  exact rfl
 have hsm:acA c:=⟨by omega,by omega,by omega,by omega⟩
 refine ei _ (ai (akl) (ei ((c,c.trs)) (ei [] (ai (a4 (ai (fun _=>Or.inl rfl) (ai nof (Or.inl rfl)))) (ai (by exact (ai (ai rfl (fun _ _=>rfl)) (ai rfl rfl))) (ai trivial (ai (⟨by show c.trs.length≤1000000;omega,hsm,htr⟩) ?_)))))))
 refine ai (ai (fun _=>trivial) ?_) trivial
 show aB _ (iP (bO c))
 rw[bO,if_neg e0,if_neg e1,if_neg h4,if_neg e2,if_neg (fun h=>h h7)]
 exact rfl
abbrev dec (n : Nat) : List UInt8 := Lib.decDigits n
def adz (n:Nat):List UInt8:=if n=0 then [] else dec n
theorem alX (n:Nat):adz n=if n=0 then [] else adz (n / 10)++[UInt8.ofNat (48+n % 10)]:=by
 unfold adz
 by_cases h:n=0
 ·rw[if_pos h,if_pos h]
 ·rw[if_neg h,if_neg h]
  unfold dec
  rw[Lib.decDigits]
  by_cases h2:n<10
  ·rw[dif_pos h2,if_pos (by omega),asw h2];rfl
  ·rw[dif_neg h2,if_neg (by omega)]
theorem aoR (s:List UInt8) (l h:Nat):(strOf s).extract l h=strOf ((s.take h).drop l):=by
 apply ByteArray.ext
 simp only[strOf,ByteArray.data_extract]
 apply Array.ext'
 simp[List.drop_take]
theorem wJ:aK Tryz.prog 79 (bQ (fun n:Nat=>[iA n]) (fun n=>n<100) (fun n=>sP (dec n))):=
 ag1 (aeR (α:=Nat) Tryz.func79 rfl rfl (vals:=fun n=>[.int .i64 n]) (pre:=fun n=>n<100) (ret:=fun n=>.string (strOf (dec n))) (fun _ _=>rfl)
  fun n hn w=>(Tryz.strconv_Itoa_small n hn w).mono fun e w' h=>by
   obtain ⟨h1,h2⟩:=h
   subst h2
   exact ⟨h1,RowKit.Below.refl _ _⟩) id
  (fun _ _=>rfl) (fun _ _=>rfl) (fun _ _=>rfl) (fun _ _=>rfl) (fun _ h=>h)
def ad6 (i:Nat) (d:UInt8):List UInt8:=[UInt8.ofNat (97+i),d]
def jm:Nat→List (List UInt8)
 | 0=>[]
 | n+1=>jm n++[ad6 n 48,ad6 n 49]
theorem aaN:∀n,(jm n).length=2*n
 | 0=>rfl
 | n+1=>by rw[jm,aas,aaN n];simp;omega
def yN (k:Nat):List UInt8:=121 :: dec k
def nu:Nat→List (List UInt8)
 | 0=>[]
 | n+1=>nu n++[yN n]
theorem aaJ:∀n,(nu n).length=n
 | 0=>rfl
 | n+1=>by rw[nu,aas,aaJ n];rfl
def dD (c:aW):List (List UInt8):=jm c.act.toNat++c.ins++nu c.sts.length
theorem aaX {a b:List (List UInt8)} {n:Nat} {f g:Nat→List PV} (hn:n=a.length) (hf:∀k,k<a.length→f k=[sP (a.getD k [])]) (hg:∀k,k<b.length→g k=[sP (b.getD k [])]):∀k,k<(a++b).length→bJ n f g k=[sP ((a++b).getD k [])]:=by
 intro k hk
 subst hn
 unfold bJ
 by_cases h:k<a.length
 ·rw[if_pos h,hf k h,aa7,aa7,aeM h]
 ·have hb:k-a.length<b.length:=by rw[aas] at hk;omega
  rw[if_neg h,hg _ hb,aa7,aa7,afK (by omega)]
def ssR (l:List (List UInt8)):LV:=.rw 9 1 l.length (fun k=>[sP (l.getD k [])])
def abc:List UInt8:=[97,98,99,100,101,102]
theorem apQ {d:Nat} (h:d<6):(strOf abc).extract ((d:Int)).toNat (((d+1:Nat):Int)).toNat=strOf [UInt8.ofNat (97+d)]:=by
 rw[aob,aob,aoR]
 have:∀d:Fin 6,(abc.take (d.1+1)).drop d.1=[UInt8.ofNat (97+d.1)]:=by decide
 exact congrArg strOf (this ⟨d,h⟩)
def agK (c:aW):Prop:=1≤c.act∧c.act≤6∧c.ins.length≤1000∧c.sts.length≤99
def arU:Spec:=iV (fun c:aW=>[kU c]) agK (fun c=>ssP (dD c))
theorem ao2 {x y:List UInt8} {a b:ByteArray} (ha:a=strOf x) (hb:b=strOf y):∀k,k<[x,y].length→bg 1 [.val (.string a),.val (.string b)] k=[sP ([x,y].getD k [])]:=by
 intro k hk
 have hk:k<2:=hk
 subst ha;subst hb
 match k,hk with
 | 0,_=>rfl
 | 1,_=>rfl
theorem aia {x:List UInt8} {a:ByteArray} (ha:a=strOf x):∀k,k<[x].length→bg 1 [.val (.string a)] k=[sP ([x].getD k [])]:=by
 intro k hk
 have hk:k<1:=hk
 subst ha
 obtain rfl:k=0:=by omega
 rfl
theorem aH {l:List PV} (n:Nat) (h:l.length=n):∀k,k<n→(bg 1 l k).length=1:=by
 intro k hk
 subst h
 induction l generalizing k with
 | nil=>simp at hk
 | cons d l ih=>
  cases k with
  | zero=>rfl
  | succ k=>
   have h1:=ih k (by simpa using hk)
   show (bg 1 (d :: l) (k+1)).length=1
   have:bg 1 (d :: l) (k+1)=bg 1 l k:=by
    unfold bg
    rw[anW,anW];rfl
   rw[this];exact h1
theorem afr {n:Nat} (h:n≤10000):n≤maxLen∧n*16≤140737488355328:=⟨by unfold maxLen;omega,by omega⟩
theorem aqr:aK Tryz.prog 76 arU:=by
 refine aX (Tb:=tab) mixed aA Tryz.func76 rfl rfl ?_
 rintro (c:aW) hpre
 refine ai (ai rfl (ai rfl rfl)) ?_
 obtain ⟨h1,h2,h3,h4⟩:=hpre
 have h1:1≤c.act:=h1
 have h2:c.act≤6:=h2
 have h3:c.ins.length≤1000:=h3
 have h4:c.sts.length≤99:=h4
 refine ei (bF.inv { X:=Nat,up:=fun i=>[(9,.s (iA i)),(3,ssR (jm i))],uo:=fun i=>[],inv:=fun i=>i≤c.act.toNat∧(True),meas:=fun i=>c.act.toNat-i,x0:=0 }) ?_
 refine ai (ai (ai (by exact (a4 (ai rfl rfl))) (ai (by exact (ai (ai (ai (fun _=>rfl) (iE (by simp only[zz,reduceCtorEq];rfl))) rfl) rfl)) (by exact trivial))) rfl) (ai (ai (ae4 _) ?_) ?_)
 ·trivial
 intro (i:Nat) ⟨hi,_⟩
 have hln:=aaN i
 refine ah (p:=i<c.act.toNat) (by exact av (by omega)) (fun g1=>?_) (fun g1=>?_)
 ·have hw:IntKind.i64.wrap ((i:Int)+1)=((i+1:Nat):Int):=aO (by omega)
  have hx:(strOf abc).extract ((i:Int)).toNat (IntKind.i64.wrap ((i:Int)+1)).toNat=strOf [UInt8.ofNat (97+i)]:=by rw[hw];exact apQ (by omega)
  have hxs:((((strOf abc).extract ((i:Int)).toNat (IntKind.i64.wrap ((i:Int)+1)).toNat).size+1:Nat):Int)≤9223372036854775807:=by rw[hx,eF];show ((1+1:Nat):Int)≤_;decide
  refine ai (ai (abq _) (ai (by rw[hw];omega) (by rw[hw];show ((i+1:Nat):Int)≤6;omega))) ?_
  refine ai hxs (ai hxs ?_)
  refine ai (afr (by show (jm i).length+2≤10000;omega)) (ai (aH 2 rfl) ?_)
  refine ei (i+1) (ai (ai rfl rfl) (ai (ai (ai rfl (ai (ai rfl rfl) (ai (ai rfl rfl) (ai (ai (ai (ai (fun _=>rfl) (aO (by omega))) rfl) (ai rfl (ai rfl (ai ?_ ?_)))) trivial)))) rfl) (ai (ai (iL (by omega)) trivial) (iM (by omega)))))
  ·show (jm i).length+2=(jm (i+1)).length
   rw[jm,aas];rfl
  ·exact fun k hk=>aaX (a:=jm i) (b:=[ad6 i 48,ad6 i 49]) (n:=(jm i).length) (f:=fun k=>[sP ((jm i).getD k [])]) rfl (fun _ _=>rfl) (ao2 (x:=ad6 i 48) (y:=ad6 i 49) (a:=(strOf abc).extract ((i:Int)).toNat (IntKind.i64.wrap ((i:Int)+1)).toNat++strOf [48]) (b:=(strOf abc).extract ((i:Int)).toNat (IntKind.i64.wrap ((i:Int)+1)).toNat++strOf [49]) (by rw[hx,dR];rfl) (by rw[hx,dR];rfl)) k (by rw[aas];exact hk)
 ·obtain rfl:i=c.act.toNat:=by omega
  refine ai (afr (by show (jm c.act.toNat).length+c.ins.length≤10000;omega)) (ai (fun _ _=>rfl) ?_)
  refine ei (bF.inv { X:=Nat,up:=fun j=>[(31,.s (iA j)),(3,ssR (jm c.act.toNat++c.ins++nu j))],uo:=fun j=>[],inv:=fun j=>j≤c.sts.length∧(True),meas:=fun j=>c.sts.length-j,x0:=0 }) ?_
  refine ai (ai (ai (by exact (a4 (ai rfl rfl))) (ai ?_ ?_)) rfl) (ai (ai (ae4 _) ?_) ?_)
  ·refine (ai (ai (ai (fun _=>rfl) (iE (by simp only[zz,reduceCtorEq];rfl))) rfl) (ai rfl (ai rfl (ai ?_ ?_))))
   ·show (jm c.act.toNat).length+c.ins.length=(jm c.act.toNat++c.ins++nu 0).length
    rw[aas,aas];rfl
   ·intro k hk
    have:=aaX (a:=jm c.act.toNat) (b:=c.ins) (n:=(jm c.act.toNat).length) (f:=fun k=>[sP ((jm c.act.toNat).getD k [])]) (g:=fun k=>[sP (c.ins.getD k [])]) rfl (fun _ _=>rfl) (fun _ _=>rfl) k (by rw[aas];exact hk)
    rw[this]
    show _=[sP ((jm c.act.toNat++c.ins++[]).getD k [])]
    rw[ap7]
  ·exact trivial
  ·trivial
  intro (j:Nat) ⟨hj,_⟩
  have hlj:=aaJ j
  have hla:(jm c.act.toNat++c.ins++nu j).length=2*c.act.toNat+c.ins.length+j:=by rw[aas,aas,hln,hlj]
  refine ah (p:=j<c.sts.length) (av (by omega)) (fun g2=>?_) (fun g2=>?_)
  ·refine ei _ (ai (wJ) (ei (j) (ei [] (ai (a4 (ai (fun _=>Or.inl rfl) (ai nof (Or.inl rfl)))) (ai (by exact rfl) (ai trivial (ai ((by show j<100;omega)) ?_)))))))
   have hd:(dec j).length≤2:=by
    have:∀j:Fin 100,(Lib.decDigits j.1).length≤2:=by decide +kernel
    exact this ⟨j,by omega⟩
   refine ai (by show (((strOf [121]).size+(strOf (dec j)).size:Nat):Int)≤9223372036854775807;rw[eF,eF,List.length_singleton];omega) ?_
   refine ai (afr (by show (jm c.act.toNat++c.ins++nu j).length+1≤10000;omega)) (ai (aH 1 rfl) ?_)
   refine ei (j+1) (ai (ai rfl rfl) (ai (ai (ai rfl (ai (ai rfl rfl) (ai (ai rfl rfl) (ai (ai (ai (ai (fun _=>rfl) (aO (by omega))) rfl) (ai rfl (ai rfl (ai ?_ ?_)))) trivial)))) rfl) (ai (ai (iL (by omega)) trivial) (iM (by omega)))))
   ·show (jm c.act.toNat++c.ins++nu j).length+1=(jm c.act.toNat++c.ins++nu (j+1)).length
    rw[nu,aas,aas,aas,aas,aas];rfl
   ·have e:jm c.act.toNat++c.ins++nu (j+1)=(jm c.act.toNat++c.ins++nu j)++[yN j]:=by rw[nu];simp
    have:=aaX (a:=jm c.act.toNat++c.ins++nu j) (b:=[yN j]) rfl (fun _ _=>rfl) (aia (x:=yN j) (a:=strOf [121]++strOf (dec j)) (by rw[dR];rfl))
    rw[←e] at this
    intro k hk
    exact this k (by rw[e,aas];exact hk)
  ·obtain rfl:j=c.sts.length:=by omega
   refine ai (ai (fun h=>absurd (show false=true from h) (by decide)) ?_) trivial
   show aB _ (ssP (dD c))
   rw[dD]
   exact (ai rfl (fun _ _=>rfl))
theorem iO {c:aW} (h:bO c=0):(1≤c.act∧c.act≤6)∧gu c.ins=0∧(0<c.sts.length∧c.sts.length≤24)∧c.trs.length≤32∧(∀k,k<c.sts.length→iQ c.act (c.sts.getD k st0)=0)∧∀k,k<c.trs.length→lN c (c.trs.getD k bB)=0:=by
 unfold bO at h
 split at h
 ·cases h
 split at h
 ·rename_i h1 h2;exact absurd h h2
 split at h
 ·cases h
 split at h
 ·cases h
 split at h
 ·rename_i h1;exact absurd h h1
 rename_i h1 h2 h3 h4 h5
 refine ⟨by omega,an3.1 h2,by omega,by omega,fun k hk=>kQ (an3.1 h5) k hk,fun k hk=>kQ h k hk⟩
theorem anm {c:aW} (h:bO c=0):agK c:=by
 obtain ⟨h1,h2,h3,h4,-⟩:=iO h
 have:=wI h2
 exact ⟨h1.1,h1.2,by omega,by omega⟩
def eO (m:List Bool) (k:Nat):PV:=bP (m.getD k false)
def ow (m:List Bool):PV:=.arr 24 (eO m)
def tu (m:List Bool):SV:=.p false (ow m)
theorem nL (g:Nat→PV):∀(n i k:Nat),k<n→(lY g i n)[k]?=some (g (i+k))
 | 0,_,_,h=>by omega
 | n+1,i,0,_=>rfl
 | n+1,i,k+1,h=>by
  show (lY g (i+1) n)[k]?=_
  rw[nL g n (i+1) k (by omega),show i+1+k=i+(k+1) by omega]
theorem aoa (m:List Bool) {k:Nat} (h:k<24):(dL 24 (eO m))[k]?=some (eO m k):=by
 unfold dL;rw[nL _ _ _ _ h,agC]
def jk (n:Nat) (l:List Int):Prop:=∀k∈l,0≤k∧k<(n:Int)
theorem vT {n:Nat} {l:List Int} (h:jk n l) {k:Nat} (hk:k<l.length):0≤l.getD k 0∧l.getD k 0<(n:Int):=h _ (acH (bH 0 hk))
def iU (m:List Bool) (k:Int):Bool:=m.getD k.toNat false
def allM (m:List Bool) (l:List Int):Bool:=l.all (iU m)
def aqc (m:List Bool):PV:=.fn 161 [.pt (dL 24 (eO m)) 0]
theorem aoq:aK Tryz.prog 161 (bQ (fun a:List Bool×Int=>[iA a.2,.p false (.pt (dL 24 (eO a.1)) 0)]) (fun a=>0≤a.2∧a.2<24) (fun a=>bP (!iU a.1 a.2))):=by
 refine aX (Tb:=tab) mixed aA Tryz.func161 rfl rfl ?_
 rintro (a:List Bool×Int) hpre
 refine ai (ai rfl (ai rfl rfl)) ?_
 have h1:0≤a.2:=hpre.1
 have h2:a.2<24:=hpre.2
 refine ai ⟨h1,h2⟩ ?_
 refine ei (eO a.1 a.2.toNat) (ai (by rw[agC];exact aoa a.1 (by omega)) ?_)
 refine ai (ai (fun _=>trivial) ?_) trivial
 exact rfl
def arz:Spec:=bQ (fun a:List Bool×List Int=>[isA a.2,.p false (aqc a.1)]) (fun a=>jk 24 a.2∧a.2.length≤1000000) (fun a=>iP (fZ (fun k=>!iU a.1 k) a.2))
theorem apA:aK Tryz.prog 106 arz:=by
 refine aX (Tb:=tab) mixed aA Tryz.func106 rfl rfl ?_
 rintro (a:List Bool×List Int) hpre
 refine ai (ai rfl (ai rfl rfl)) ?_
 obtain ⟨hx,hl⟩:=hpre
 have hl:a.2.length≤1000000:=hl
 refine ei (bF.inv { X:=Nat,up:=fun k=>[(8,.s (iA k))],uo:=fun k=>[],inv:=fun k=>k≤a.2.length∧(∀y∈a.2.take k,(!iU a.1 y)=false),meas:=fun k=>a.2.length-k,x0:=0 }) ?_
 refine ai (ai (ai (by exact (a4 (ai rfl rfl))) (ai (by exact (ai (ai (fun _=>rfl) (iE (by simp only[zz,reduceCtorEq];rfl))) rfl)) (by exact trivial))) rfl) (ai (ai (ae4 _) ?_) ?_)
 ·exact fun y hy=>absurd hy (by simp)
 intro (k:Nat) ⟨hk,hall⟩
 refine ah (p:=k<a.2.length) (av (by omega)) (fun h1=>?_) (fun h1=>?_)
 ·refine ai (ai (abq _) (iN (n:=a.2.length) (by omega))) (ai rfl ?_)
  refine ei _ (ai (aoq) (ei ((a.1,a.2.getD k 0)) (ei [] (ai (a4 (ai (fun _=>Or.inl rfl) (ai nof (Or.inl rfl)))) (ai (by exact (ai (iE (by simp only[zz,reduceCtorEq])) (ai rfl rfl))) (ai trivial (ai (vT hx h1) ?_)))))))
  refine aY (b:=!iU a.1 (a.2.getD k 0)) rfl (fun h2=>?_) (fun h2=>?_)
  ·refine ai (ai (fun _=>trivial) ?_) trivial
   show aB _ (iP (fZ (fun k=>!iU a.1 k) a.2))
   rw[ni (d:=0) h1 h2 hall]
   exact rfl
  refine ei (k+1) (ai (ai rfl rfl) (ai (ai (ai rfl (ai (ai rfl rfl) (ai (ai rfl rfl) (ai (ai (ai (fun _=>rfl) (aO (by omega))) rfl) trivial)))) rfl) (ai (ai (iL (by omega)) ?_) (iM (by omega)))))
  intro y hy
  rw[aU 0 h1] at hy
  rcases ahi.1 hy with hy | hy
  ·exact hall y hy
  ·simp only[agb] at hy;subst hy;exact h2
 ·obtain rfl:k=a.2.length:=by omega
  rw[aga] at hall
  refine ai (ai (fun _=>trivial) ?_) trivial
  show aB _ (iP (fZ (fun k=>!iU a.1 k) a.2))
  rw[oC hall]
  exact rfl
theorem aoJ:aK Tryz.prog 38 (bQ (fun a:List Bool×List Int=>[isA a.2,.p false (aqc a.1)]) (fun a=>jk 24 a.2∧a.2.length≤1000000) (fun a=>bP (a.2.any fun k=>!iU a.1 k))):=by
 refine aX (Tb:=tab) mixed aA Tryz.func38 rfl rfl ?_
 rintro (a:List Bool×List Int) hpre
 refine ai (ai rfl (ai rfl rfl)) ?_
 refine ei _ (ai (apA) (ei (a) (ei [] (ai (a4 (ai (fun _=>Or.inl rfl) (ai nof (Or.inl rfl)))) (ai (by exact (ai (ai rfl (fun _ _=>rfl)) (ai rfl rfl))) (ai trivial (ai (hpre) ?_)))))))
 refine ai (ai (fun _=>trivial) ?_) trivial
 show aB _ (bP (a.2.any fun k=>!iU a.1 k))
 rw[(mK (fun k=>!iU a.1 k) a.2).symm]
 exact rfl
theorem aqz:aK Tryz.prog 114 (bQ (fun a:List Bool×List Int=>[tu a.1,isA a.2]) (fun a=>jk 24 a.2∧a.2.length≤1000000) (fun a=>bP (allM a.1 a.2))):=by
 refine iT [3000006] ?_
 refine aX (Tb:=tab) mixed aA Tryz.func114 rfl rfl ?_
 rintro (a:List Bool×List Int) hpre
 refine ai (ai rfl (ai rfl rfl)) ?_
 refine ei _ (ai (aoJ) (ei (a) (ei [] (ai (a4 (ai (fun _=>Or.inl rfl) (ai nof (Or.inl rfl)))) (ai (by exact (ai (ai rfl (fun _ _=>rfl)) (ai rfl rfl))) (ai trivial (ai (hpre) ?_)))))))
 refine ai (ai (fun _=>trivial) ?_) trivial
 show aB _ (bP (allM a.1 a.2))
 rw[show allM a.1 a.2=!(a.2.any fun k=>!iU a.1 k) by unfold allM;simp[List.not_any_eq_all_not]]
 exact rfl
def bT (l:List Bool):List Bool:=l++List.replicate (24-l.length) false
theorem lF (l:List Bool) (k:Nat):(bT l).getD k false=l.getD k false:=by
 unfold bT
 rw[aa7,aa7]
 by_cases h:k<l.length
 ·rw[aeM h]
 ·rw[afK (by omega),aqY (l:=l) (by omega),asu]
  split<;>rfl
theorem oh {l:List Bool} (h:l.length≤24):(bT l).length=24:=by unfold bT;rw[aas,arP];omega
def mk0:List Bool:=bT []
def lD (c:aW) (a:List Bool):Int:=if ¬bO c=0 then bO c else if ¬a.length=c.sts.length then 8 else 0
def tJ (c:aW) (a:List Bool):List Bool:=if lD c a=0 then bT a else mk0
def arT:Spec:=iV (fun a:aW×List Bool=>[kU a.1,vZ a.2]) (fun a=>jf a.1) (fun a=>.tup [ow (tJ a.1 a.2),iP (lD a.1 a.2)])
theorem aji:∀k,k<24→kC (vals (List.replicate 24 (.bool false))) k=eO mk0 k:=by
 intro k hk
 rw[r9,adB 24 _ hk]
 unfold eO mk0
 rw[lF];rfl
theorem afQ {c:aW} {a:List Bool} (h:lD c a=0):bO c=0∧a.length=c.sts.length∧a.length≤24:=by
 unfold lD at h
 split at h
 ·rename_i h1;exact absurd h h1
 ·rename_i h1
  split at h
  ·cases h
  ·rename_i h2
   have h1:=an3.1 h1
   have h2:=an3.1 h2
   have:=(iO h1).2.2.1.2
   exact ⟨h1,h2,by omega⟩
theorem apk {l:List Bool} (h:l.length≤24):∀k,k<24→aaA (kC (vals (List.replicate 24 (.bool false)))) 0 (Nat.min l.length 24) (fun k=>[bP (l.getD k false)]) k=eO (bT l) k:=by
 intro k hk
 unfold aaA
 have hm:Nat.min l.length 24=l.length:=asW h
 rw[hm]
 unfold eO
 rw[lF]
 by_cases hk2:k<l.length
 ·rw[if_pos ⟨ae4 _,by omega⟩,asA];rfl
 ·rw[if_neg (by omega),r9,adB 24 _ hk,aa7,aqY (by omega)];rfl
theorem alS:aK Tryz.prog 110 arT:=by
 refine aX (Tb:=tab) mixed aA Tryz.func110 rfl rfl ?_
 rintro (a:aW×List Bool) hpre
 refine ai (ai rfl (ai rfl rfl)) ?_
 refine ei _ (ai (afA) (ei (a.1) (ei [] (ai (a4 (ai (fun _=>Or.inl rfl) (ai nof (Or.inl rfl)))) (ai (by exact (ai rfl (ai (ai rfl (fun _ _=>rfl)) (ai (ai rfl (fun _ _=>rfl)) (ai rfl (fun _ _=>rfl)))))) (ai trivial (ai (hpre) ?_)))))))
 refine bI (p:=bO a.1=0) (dh (by omega)) (fun h1=>?_) (fun h1=>?_)
 ·have e:lD a.1 a.2=bO a.1:=by unfold lD;rw[if_pos h1]
  refine ai (ai (fun h=>absurd (show false=true from h) (by decide)) ?_) trivial
  show aB _ (.tup [ow (tJ a.1 a.2),iP (lD a.1 a.2)])
  rw[tJ,e,if_neg h1]
  refine (ai (ai rfl ?_) rfl)
  exact aji
 refine bI (p:=a.2.length=a.1.sts.length) (dh (by omega)) (fun h2=>?_) (fun h2=>?_)
 ·have e:lD a.1 a.2=8:=by unfold lD;rw[if_neg (fun h=>h h1),if_pos h2]
  refine ai (ai (fun h=>absurd (show false=true from h) (by decide)) ?_) trivial
  show aB _ (.tup [ow (tJ a.1 a.2),iP (lD a.1 a.2)])
  rw[tJ,e,if_neg (show ¬(8:Int)=0 by decide)]
  refine (ai (ai rfl ?_) rfl)
  exact aji
 have e:lD a.1 a.2=0:=by unfold lD;rw[if_neg (fun h=>h h1),if_neg (fun h=>h h2)]
 refine ai (ai (by decide) (ai (by decide) (by decide))) ?_
 refine ai (ai rfl (fun _ _=>rfl)) ?_
 refine ai (ai (fun h=>absurd (show false=true from h) (by decide)) ?_) trivial
 show aB _ (.tup [ow (tJ a.1 a.2),iP (lD a.1 a.2)])
 rw[tJ,e,if_pos rfl]
 refine (ai (ai rfl ?_) rfl)
 exact apk (afQ e).2.2
theorem afp {n:Nat} {f g:Nat→List PV}:∀k,k<0+n→bJ 0 f g k=g k:=fun k hk=>by
 unfold bJ;rw[if_neg (ai8 _),asA]
def ara:Spec:=bQ (fun l:List (Bool)=>[vZ l]) (fun l=>l.length≤1000000) (fun l=>kW l)
theorem aps:aK Tryz.prog 40 ara:=by
 refine aX (Tb:=tab) mixed aA Tryz.func40 rfl rfl ?_
 rintro (l:List (Bool)) hpre
 refine ai (ai rfl (ai rfl rfl)) ?_
 have hl:l.length≤1000000:=hpre
 intro b hb
 refine aZ (fun h1=>?_) (fun h1=>?_)
 ·have h1:l.length=0:=hb h1
  refine ai (ai (fun _=>trivial) ?_) trivial
  show aB _ (kW l)
  rw[an6.1 h1]
  exact rfl
 ·refine ai (mxL (n:=0+l.length) (by omega) (by decide)) (ai (fun _ _=>rfl) ?_)
  refine ai (ai (fun _ k hk=>by rw[afp k hk];rfl) ?_) trivial
  refine (ai ?_ (fun _ _=>rfl))
  exact agC _
def asb:Spec:=bQ (fun a:aW×List Bool=>[kU a.1,tu a.2]) (fun a=>a.1.sts.length≤24∧a.2.length=24) (fun a=>kW (a.2.take a.1.sts.length))
theorem aiT:aK Tryz.prog 98 asb:=by
 refine aX (Tb:=tab) mixed aA Tryz.func98 rfl rfl ?_
 rintro (a:aW×List Bool) hpre
 refine ai (ai rfl (ai rfl rfl)) ?_
 obtain ⟨h1,h2⟩:=hpre
 have h1:a.1.sts.length≤24:=h1
 have h2:a.2.length=24:=h2
 refine ai (ai (by decide) (ai (abq _) (by show (a.1.sts.length:Int)≤24;omega))) ?_
 have htl:(a.2.take a.1.sts.length).length=a.1.sts.length:=by rw[aik];omega
 refine ei _ (ai (aps) (ei (a.2.take a.1.sts.length) (ei [] (ai (ai rfl (ai rfl (ai rfl (ai rfl (ai (fun _=>Or.inl rfl) (ai (fun _=>ai rfl rfl) (Or.inl rfl))))))) (ai ?_ (ai (by exact trivial) (ai ((by show (a.2.take a.1.sts.length).length≤1000000;omega)) ?_)))))))
 ·refine (ai rfl (ai ?_ ?_))
  ·show ((a.1.sts.length:Int)).toNat-(0:Int).toNat=(a.2.take a.1.sts.length).length
   rw[htl];simp
  ·intro k hk
   have hk:k<((a.1.sts.length:Int)).toNat-(0:Int).toNat:=hk
   have hk:k<a.1.sts.length:=by simpa using hk
   show [bP (a.2.getD ((0:Int).toNat+k) false)]=[bP ((a.2.take a.1.sts.length).getD k false)]
   rw[show (0:Int).toNat+k=k by simp,aa7,aa7,ai3,if_pos hk]
 refine ai (ai (fun _=>trivial) ?_) trivial
 exact (ai rfl (fun _ _=>rfl))
def isR (l:List Int):LV:=.rw 3 1 l.length (fun k=>[iP (l.getD k 0)])
theorem aea {a b:List Int} {n:Nat} {f g:Nat→List PV} (hn:n=a.length) (hf:∀k,k<a.length→f k=[iP (a.getD k 0)]) (hg:∀k,k<b.length→g k=[iP (b.getD k 0)]):∀k,k<(a++b).length→bJ n f g k=[iP ((a++b).getD k 0)]:=by
 intro k hk
 subst hn
 unfold bJ
 by_cases h:k<a.length
 ·rw[if_pos h,hf k h,aa7,aa7,aeM h]
 ·have hb:k-a.length<b.length:=by rw[aas] at hk;omega
  rw[if_neg h,hg _ hb,aa7,aa7,afK (by omega)]
theorem apE (a:List Int) (x:Int):∀k,k<a.length+1→bJ a.length (fun k=>[iP (a.getD k 0)]) (bg 1 [iP x]) k=[iP ((a++[x]).getD k 0)]:=fun k hk=>
 aea (a:=a) (b:=[x]) rfl (fun _ _=>rfl) (fun j hj=>by
  have hj:j<1:=hj
  obtain rfl:j=0:=by omega
  rfl) k (by rw[aas];exact hk)
def nD (p:Nat→Bool):Nat→List Int
 | 0=>[]
 | n+1=>if p n then nD p n++[(n:Int)] else nD p n
theorem agx (p:Nat→Bool):∀n,(nD p n).length≤n
 | 0=>afM _
 | n+1=>by
  have:=agx p n
  rw[nD];split
  ·rw[aas];simp;omega
  ·omega
theorem aaE {n:Nat} {l:List Int} (h:kI n l=0) (hn:n≤24):jk 24 l∧jk n l∧0<l.length:=by
 unfold kI at h
 split at h
 ·cases h
 ·rename_i h0
  have h1:=kQ h
  have:jk n l:=by
   intro k hk
   obtain ⟨i,hi,rfl⟩:=an4 hk
   have h2:=h1 i hi
   unfold uM at h2
   have hg:l.getD i 0=l[i]:=by rw[aa7,abb hi];rfl
   rw[hg] at h2
   split at h2
   ·cases h2
   ·omega
  exact ⟨fun k hk=>by have:=this k hk;omega,this,by omega⟩
theorem ao0 {c:aW} {t:kM} (h:lN c t=0) (hn:c.sts.length≤24):(jk 24 t.fr∧jk c.sts.length t.fr)∧(jk 24 t.to∧jk c.sts.length t.to)∧eH t.wh (qy c)=0:=by
 unfold lN at h
 split at h
 ·rename_i h1;exact absurd h h1
 rename_i h1
 split at h
 ·rename_i h2;exact absurd h h2
 rename_i h2
 have g1:=aaE (an3.1 h1) hn
 have g2:=aaE (an3.1 h2) hn
 exact ⟨⟨g1.1,g1.2.1⟩,⟨g2.1,g2.2.1⟩,h⟩
theorem oW {c:aW} (h:bO c=0) {i:Nat} (hi:i<c.trs.length):(jk 24 (c.trs.getD i bB).fr∧jk c.sts.length (c.trs.getD i bB).fr)∧(jk 24 (c.trs.getD i bB).to∧jk c.sts.length (c.trs.getD i bB).to)∧eH (c.trs.getD i bB).wh (qy c)=0:=by
 obtain ⟨_,_,h3,_,_,h6⟩:=iO h
 exact ao0 (h6 i hi) h3.2
theorem ad1 {c:aW} (h:jf c) {i:Nat} (hi:i<c.trs.length):ajz (c.trs.getD i bB):=h.2 _ (acH (bH bB hi))
theorem amQ (a:List Bool) (k:Int):iU (bT a) k=iU a k:=lF a k.toNat
theorem amv (a:List Bool) (l:List Int):allM (bT a) l=allM a l:=by
 unfold allM;rw[show iU (bT a)=iU a from funext (amQ a)]
def fF (m:List Bool) (l:List Int) (b:Bool):List Bool:=l.foldl (fun m k=>m.set k.toNat b) m
theorem jg (b:Bool):∀(l:List Int) (m:List Bool),(fF m l b).length=m.length
 | [],_=>rfl
 | k :: l,m=>by
  show (fF (m.set k.toNat b) l b).length=_
  rw[jg b l,asK]
theorem xV (m:List Bool) (l:List Int) (k:Int) (b:Bool):fF m (l++[k]) b=(fF m l b).set k.toNat b:=by unfold fF;rw[asM];rfl
theorem aiI {m:List Bool} (hm:m.length=24) {j:Nat} (hj:j<24) (b:Bool) (k:Nat):qb (eO m) j (bP b) k=eO (m.set j b) k:=by
 unfold qb eO
 rw[aa7,aa7,asN]
 by_cases h:k=j
 ·rw[if_pos h,if_pos h.symm,if_pos (by omega)];rfl
 ·rw[if_neg h,if_neg (fun e=>h e.symm)]
def kP (m:List Bool) (t:kM):List Bool:=fF (fF m t.fr false) t.to true
def bf (c:aW) (m:List Bool) (i:Nat):List Bool×Bool:=if allM m (c.trs.getD i bB).fr then (kP m (c.trs.getD i bB),true) else (m,false)
def mkO (m:List Bool):Ob:=.arr 117 24 (eO m)
def arW:Spec:=iV (fun a:aW×List Bool×Nat=>[kU a.1,tu a.2.1,iA a.2.2]) (fun a=>bO a.1=0∧jf a.1∧a.2.1.length=24∧a.2.2<a.1.trs.length) (fun a=>.tup [ow (bf a.1 a.2.1 a.2.2).1,bP (bf a.1 a.2.1 a.2.2).2])
theorem al8:aK Tryz.prog 61 arW:=by
 refine aX (Tb:=tab) mixed aA Tryz.func61 rfl rfl ?_
 rintro ⟨c,m,i⟩ hpre
 refine ai (ai rfl (ai rfl rfl)) ?_
 obtain ⟨hc,ho,hm,hi⟩:=hpre
 have hc:bO c=0:=hc
 have ho:jf c:=ho
 have hm:m.length=24:=hm
 have hi:i<c.trs.length:=hi
 obtain ⟨g1,g2,g3⟩:=oW hc hi
 have hto:=ad1 ho hi
 refine ai (ai (abq _) (iN (n:=c.trs.length) (by omega))) (ai rfl ?_)
 refine ei _ (ai (aqz) (ei ((m,(c.trs.getD i bB).fr)) (ei [] (ai (a4 (ai (fun _=>Or.inl rfl) (ai nof (Or.inl rfl)))) (ai (by exact (ai (ai rfl (fun _ _=>rfl)) (ai rfl (fun _ _=>rfl)))) (ai trivial (ai (⟨g1.1,hto.1⟩) ?_)))))))
 refine aY (b:=!allM m (c.trs.getD i bB).fr) rfl (fun h2=>?_) (fun h2=>?_)
 ·have h2:allM m (c.trs.getD i bB).fr=false:=by simpa using h2
  have e:bf c m i=(m,false):=by unfold bf;rw[h2];rfl
  refine ai (ai (fun h=>absurd (show false=true from h) (by decide)) ?_) trivial
  show aB _ (.tup [ow (bf c m i).1,bP (bf c m i).2])
  rw[e]
  exact (ai (ai rfl (fun _ _=>rfl)) rfl)
 have h2:allM m (c.trs.getD i bB).fr=true:=by simpa using h2
 have e:bf c m i=(kP m (c.trs.getD i bB),true):=by unfold bf;rw[h2];rfl
 have hf:(c.trs.getD i bB).fr.length≤1000000:=hto.1
 have ht:(c.trs.getD i bB).to.length≤1000000:=hto.2.1
 refine ei (bF.inv { X:=Nat,up:=fun k=>[(27,.s (iA k))],uo:=fun k=>[⟨1,117,[.ob (mkO (fF m ((c.trs.getD i bB).fr.take k) false))]⟩],inv:=fun k=>k≤(c.trs.getD i bB).fr.length∧(True),meas:=fun k=>(c.trs.getD i bB).fr.length-k,x0:=0 }) ?_
 refine ai (ai (ai (by exact (a4 (ai rfl rfl))) (ai ?_ ?_)) rfl) (ai (ai (ae4 _) ?_) ?_)
 ·exact (ai (ai (fun _=>rfl) (iE (by simp only[zz,reduceCtorEq];rfl))) rfl)
 ·exact (ai (ai rfl (ai rfl (fun _ _=>rfl))) trivial)
  skip
 ·trivial
 intro (k:Nat) ⟨hk,_⟩
 refine ah (p:=k<(c.trs.getD i bB).fr.length) (by simp only[zz,reduceCtorEq];omega) (fun h3=>?_) (fun h3=>?_)
 ·refine ai (ai (abq _) (iN (n:=(c.trs.getD i bB).fr.length) (by omega))) (ai rfl ?_)
  have hx:=vT g1.1 h3
  have h24:((c.trs.getD i bB).fr.getD k 0).toNat<24:=by omega
  refine ai hx ?_
  refine ai (by show 0+((c.trs.getD i bB).fr.getD k 0).toNat*1<24;omega) ?_
  refine ei (k+1) (ai (ai rfl rfl) (ai (ai (ai rfl (ai (ai rfl rfl) (ai (ai rfl rfl) (ai (ai (ai (fun _=>rfl) (aO (by omega))) rfl) (ai (ai rfl (ai rfl ?_)) trivial))))) rfl) (ai (ai (iL (by omega)) trivial) (iM (by omega)))))
  intro q hq
  show qb (eO (fF m ((c.trs.getD i bB).fr.take k) false)) (0+((c.trs.getD i bB).fr.getD k 0).toNat*1) (bP false) q=eO (fF m ((c.trs.getD i bB).fr.take (k+1)) false) q
  rw[agC,anW,aiI (by rw[jg];exact hm) h24,aU 0 h3,xV]
 ·obtain rfl:k=(c.trs.getD i bB).fr.length:=by omega
  rw[aga]
  refine ei (bF.inv { X:=Nat,up:=fun j=>[(37,.s (iA j))],uo:=fun j=>[⟨1,117,[.ob (mkO (fF (fF m (c.trs.getD i bB).fr false) ((c.trs.getD i bB).to.take j) true))]⟩],inv:=fun j=>j≤(c.trs.getD i bB).to.length∧(True),meas:=fun j=>(c.trs.getD i bB).to.length-j,x0:=0 }) ?_
  refine ai (ai (ai (by exact (a4 (ai rfl rfl))) (ai ?_ ?_)) rfl) (ai (ai (ae4 _) ?_) ?_)
  ·exact (ai (ai (fun _=>rfl) (iE (by simp only[zz,reduceCtorEq];rfl))) rfl)
  ·exact (ai (ai rfl (ai rfl (fun _ _=>rfl))) trivial)
   skip
  ·trivial
  intro (j:Nat) ⟨hk,_⟩
  refine ah (p:=j<(c.trs.getD i bB).to.length) (by simp only[zz,reduceCtorEq];omega) (fun h3=>?_) (fun h3=>?_)
  ·refine ai (ai (abq _) (iN (n:=(c.trs.getD i bB).to.length) (by omega))) (ai rfl ?_)
   have hx:=vT g2.1 h3
   have h24:((c.trs.getD i bB).to.getD j 0).toNat<24:=by omega
   refine ai hx ?_
   refine ai (by show 0+((c.trs.getD i bB).to.getD j 0).toNat*1<24;omega) ?_
   refine ei (j+1) (ai (ai rfl rfl) (ai (ai (ai rfl (ai (ai rfl rfl) (ai (ai rfl rfl) (ai (ai (ai (fun _=>rfl) (aO (by omega))) rfl) (ai (ai rfl (ai rfl ?_)) trivial))))) rfl) (ai (ai (iL (by omega)) trivial) (iM (by omega)))))
   intro q hq
   show qb (eO (fF (fF m (c.trs.getD i bB).fr false) ((c.trs.getD i bB).to.take j) true)) (0+((c.trs.getD i bB).to.getD j 0).toNat*1) (bP true) q=eO (fF (fF m (c.trs.getD i bB).fr false) ((c.trs.getD i bB).to.take (j+1)) true) q
   rw[agC,anW,aiI (by rw[jg];exact (jg _ _ _).trans hm) h24,aU 0 h3,xV]
  ·obtain rfl:j=(c.trs.getD i bB).to.length:=by omega
   rw[aga]
   refine ai (ai (fun h=>absurd (show false=true from h) (by decide)) ?_) trivial
   show aB _ (.tup [ow (bf c m i).1,bP (bf c m i).2])
   rw[e]
   exact (ai (ai rfl (fun _ _=>rfl)) rfl)
def aqm (m:List Bool) (t:kM):PV:=.fn 125 [.pt (dL 24 (eO m)) 0,.pt (trK t) 0]
def ajj (l:List Int) (k:Int):Bool:=l.any fun y=>k==y
def lZ (m:List Bool) (t:kM) (k:Int):Bool:=iU m k&&!ajj t.fr k
theorem apd:aK Tryz.prog 125 (bQ (fun a:(List Bool×kM)×Int=>[iA a.2,.p false (.pt (dL 24 (eO a.1.1)) 0),.p false (.pt (trK a.1.2) 0)]) (fun a=>(0≤a.2∧a.2<24)∧a.1.2.fr.length≤1000000) (fun a=>bP (lZ a.1.1 a.1.2 a.2))):=by
 refine aX (Tb:=tab) mixed aA Tryz.func125 rfl rfl ?_
 rintro (a:(List Bool×kM)×Int) hpre
 refine ai (ai rfl (ai rfl rfl)) ?_
 obtain ⟨⟨h1,h2⟩,h3⟩:=hpre
 have h1:0≤a.2:=h1
 have h2:a.2<24:=h2
 refine ai ⟨h1,h2⟩ ?_
 refine ei (eO a.1.1 a.2.toNat) (ai (by rw[agC];exact aoa a.1.1 (by omega)) ?_)
 refine aY (b:=iU a.1.1 a.2) rfl (fun h4=>?_) (fun h4=>?_)
 ·refine ei _ (ai (apG) (ei ((a.1.2.fr,a.2)) (ei [] (ai (a4 (ai (fun _=>Or.inl rfl) (ai nof (Or.inl rfl)))) (ai (by exact (ai (ai rfl (fun _ _=>rfl)) rfl)) (ai trivial (ai (h3) ?_)))))))
  refine ai (ai (fun _=>trivial) ?_) trivial
  show aB _ (bP (lZ a.1.1 a.1.2 a.2))
  rw[show lZ a.1.1 a.1.2 a.2=!ajj a.1.2.fr a.2 by unfold lZ;rw[h4];rfl]
  exact rfl
 ·refine ai (ai (fun _=>trivial) ?_) trivial
  show aB _ (bP (lZ a.1.1 a.1.2 a.2))
  rw[show lZ a.1.1 a.1.2 a.2=false by unfold lZ;rw[h4];rfl]
  exact rfl
def akU (a:(List Bool×kM)×List Int):Prop:=jk 24 a.2∧a.2.length≤1000000∧a.1.2.fr.length≤1000000
theorem apf:aK Tryz.prog 106 (bQ (fun a:(List Bool×kM)×List Int=>[isA a.2,.p false (aqm a.1.1 a.1.2)]) akU (fun a=>iP (fZ (lZ a.1.1 a.1.2) a.2))):=by
 refine aX (Tb:=tab) mixed aA Tryz.func106 rfl rfl ?_
 rintro (a:(List Bool×kM)×List Int) hpre
 refine ai (ai rfl (ai rfl rfl)) ?_
 obtain ⟨hx,hl,hf⟩:=hpre
 have hl:a.2.length≤1000000:=hl
 refine ei (bF.inv { X:=Nat,up:=fun k=>[(8,.s (iA k))],uo:=fun k=>[],inv:=fun k=>k≤a.2.length∧(∀y∈a.2.take k,lZ a.1.1 a.1.2 y=false),meas:=fun k=>a.2.length-k,x0:=0 }) ?_
 refine ai (ai (ai (by exact (a4 (ai rfl rfl))) (ai (by exact (ai (ai (fun _=>rfl) (iE (by simp only[zz,reduceCtorEq];rfl))) rfl)) (by exact trivial))) rfl) (ai (ai (ae4 _) ?_) ?_)
 ·exact fun y hy=>absurd hy (by simp)
 intro (k:Nat) ⟨hk,hall⟩
 refine ah (p:=k<a.2.length) (av (by omega)) (fun h1=>?_) (fun h1=>?_)
 ·refine ai (ai (abq _) (iN (n:=a.2.length) (by omega))) (ai rfl ?_)
  refine ei _ (ai (apd) (ei ((a.1,a.2.getD k 0)) (ei [] (ai (a4 (ai (fun _=>Or.inl rfl) (ai nof (Or.inl rfl)))) (ai (by exact (ai (iE (by simp only[zz,reduceCtorEq])) (ai (ai rfl rfl) (ai rfl rfl)))) (ai trivial (ai (⟨vT hx h1,hf⟩) ?_)))))))
  refine aY (b:=lZ a.1.1 a.1.2 (a.2.getD k 0)) rfl (fun h2=>?_) (fun h2=>?_)
  ·refine ai (ai (fun _=>trivial) ?_) trivial
   show aB _ (iP (fZ (lZ a.1.1 a.1.2) a.2))
   rw[ni (d:=0) h1 h2 hall]
   exact rfl
  refine ei (k+1) (ai (ai rfl rfl) (ai (ai (ai rfl (ai (ai rfl rfl) (ai (ai rfl rfl) (ai (ai (ai (fun _=>rfl) (aO (by omega))) rfl) trivial)))) rfl) (ai (ai (iL (by omega)) ?_) (iM (by omega)))))
  intro y hy
  rw[aU 0 h1] at hy
  rcases ahi.1 hy with hy | hy
  ·exact hall y hy
  ·simp only[agb] at hy;subst hy;exact h2
 ·obtain rfl:k=a.2.length:=by omega
  rw[aga] at hall
  refine ai (ai (fun _=>trivial) ?_) trivial
  show aB _ (iP (fZ (lZ a.1.1 a.1.2) a.2))
  rw[oC hall]
  exact rfl
theorem ao5:aK Tryz.prog 38 (bQ (fun a:(List Bool×kM)×List Int=>[isA a.2,.p false (aqm a.1.1 a.1.2)]) akU (fun a=>bP (a.2.any (lZ a.1.1 a.1.2)))):=by
 refine aX (Tb:=tab) mixed aA Tryz.func38 rfl rfl ?_
 rintro (a:(List Bool×kM)×List Int) hpre
 refine ai (ai rfl (ai rfl rfl)) ?_
 refine ei _ (ai (apf) (ei (a) (ei [] (ai (a4 (ai (fun _=>Or.inl rfl) (ai nof (Or.inl rfl)))) (ai (by exact (ai (ai rfl (fun _ _=>rfl)) (ai rfl rfl))) (ai trivial (ai (hpre) ?_)))))))
 refine ai (ai (fun _=>trivial) ?_) trivial
 show aB _ (bP (a.2.any (lZ a.1.1 a.1.2)))
 rw[(mK (lZ a.1.1 a.1.2) a.2).symm]
 exact rfl
def wU (c:aW) (m:List Bool) (i:Nat):Bool:=(c.trs.getD i bB).to.any (lZ m (c.trs.getD i bB))
def ar1:Spec:=bQ (fun a:aW×List Bool×Nat=>[kU a.1,tu a.2.1,iA a.2.2]) (fun a=>bO a.1=0∧jf a.1∧a.2.2<a.1.trs.length) (fun a=>bP (wU a.1 a.2.1 a.2.2))
theorem aen:aK Tryz.prog 62 ar1:=by
 refine iT [3000015] ?_
 refine aX (Tb:=tab) mixed aA Tryz.func62 rfl rfl ?_
 rintro ⟨c,m,i⟩ hpre
 refine ai (ai rfl (ai rfl rfl)) ?_
 obtain ⟨hc,ho,hi⟩:=hpre
 have hc:bO c=0:=hc
 have ho:jf c:=ho
 have hi:i<c.trs.length:=hi
 obtain ⟨g1,g2,g3⟩:=oW hc hi
 have hto:=ad1 ho hi
 refine ai (ai (abq _) (iN (n:=c.trs.length) (by omega))) (ai rfl ?_)
 refine ei _ (ai (ao5) (ei (((m,c.trs.getD i bB),(c.trs.getD i bB).to)) (ei [] (ai (a4 (ai (fun _=>Or.inl rfl) (ai nof (Or.inl rfl)))) (ai (by exact (ai (ai rfl (fun _ _=>rfl)) (ai rfl rfl))) (ai trivial (ai (⟨g2.1,hto.2.1,hto.1⟩) ?_)))))))
 refine ai (ai (fun _=>trivial) ?_) trivial
 exact rfl
theorem wY {α:Type} {l m:List α} {k:Nat} (d:α) (h1:k<l.length) (h2:k<m.length) (h:l.take k=m.take k) (e:l.getD k d=m.getD k d):l.take (k+1)=m.take (k+1):=by
 rw[aU d h1,aU d h2,h,e]
theorem asq (x y:Sk):(!((x.1==y.1)&&((x.2==y.2)&&true)))=true↔¬x=y:=by
 rw[Bool.and_true,aof,←atn,afT,beq_iff_eq,beq_iff_eq]
 exact not_congr ⟨fun h=>Prod.ext h.1 h.2,fun h=>⟨congrArg Prod.fst h,congrArg Prod.snd h⟩⟩
def akQ:Spec:=bQ (fun a:List (Bool)×List (Bool)=>[vZ a.1,vZ a.2]) (fun a=>a.1.length≤1000000) (fun a=>bP (decide (a.1=a.2)))
theorem anH:aK Tryz.prog 120 akQ:=by
 refine aX (Tb:=tab) mixed aA Tryz.func120 rfl rfl ?_
 rintro (a:List (Bool)×List (Bool)) hpre
 refine ai (ai rfl (ai rfl rfl)) ?_
 have hl:a.1.length≤1000000:=hpre
 refine bI (p:=a.1.length=a.2.length) (dh (by omega)) (fun h1=>?_) (fun h1=>?_)
 ·refine ai (ai (fun _=>trivial) ?_) trivial
  show aB _ (bP (decide (a.1=a.2)))
  rw[decide_eq_false (fun h=>h1 (congrArg List.length h))]
  exact rfl
 refine ei (bF.inv { X:=Nat,up:=fun k=>[(5,.s (iA k))],uo:=fun k=>[],inv:=fun k=>k≤a.1.length∧(a.1.take k=a.2.take k),meas:=fun k=>a.1.length-k,x0:=0 }) ?_
 refine ai (ai (ai (by exact (a4 (ai rfl rfl))) (ai (by exact (ai (ai (fun _=>rfl) (iE (by simp only[zz,reduceCtorEq];rfl))) rfl)) (by exact trivial))) rfl) (ai (ai (ae4 _) ?_) ?_)
 ·rfl
 intro (k:Nat) ⟨hk,hall⟩
 refine ah (p:=k<a.1.length) (av (by omega)) (fun h4=>?_) (fun h4=>?_)
 ·refine ei (.seq [0,1,2,3,4,5,6,7,8]) (ai (by kernel_rfl) ?_)
  refine ai (ai (abq _) (iN (n:=a.1.length) (by omega))) (ai rfl ?_)
  refine ai (ai (abq _) (iN (n:=a.2.length) (by omega))) (ai rfl ?_)
  refine bI (p:=a.1.getD k false=a.2.getD k false) (by exact bne_iff_ne) (fun h5=>?_) (fun h5=>?_)
  ·refine ai (ai (fun _=>trivial) ?_) trivial
   show aB _ (bP (decide (a.1=a.2)))
   rw[decide_eq_false (fun h=>h5 (by rw[h]))]
   exact rfl
  refine ei (k+1) (ai (ai rfl rfl) (ai (ai (ai rfl (ai (ai rfl rfl) (ai (ai rfl rfl) (ai (ai (ai (fun _=>rfl) (aO (by omega))) rfl) trivial)))) rfl) (ai (ai (iL (by omega)) ?_) (iM (by omega)))))
  exact wY false h4 (by omega) hall h5
 ·obtain rfl:k=a.1.length:=by omega
  rw[aga,h1,aga] at hall
  refine ai (ai (fun _=>trivial) ?_) trivial
  show aB _ (bP (decide (a.1=a.2)))
  rw[decide_eq_true hall]
  exact rfl
theorem anO:aK Tryz.prog 54 akQ:=by
 refine aX (Tb:=tab) mixed aA Tryz.func54 rfl rfl ?_
 rintro (a:List Bool×List Bool) hpre
 refine ai (ai rfl (ai rfl rfl)) ?_
 refine ei _ (ai (anH) (ei (a) (ei [] (ai (a4 (ai (fun _=>Or.inl rfl) (ai nof (Or.inl rfl)))) (ai (by exact (ai (ai rfl (fun _ _=>rfl)) (ai rfl (fun _ _=>rfl)))) (ai trivial (ai (hpre) ?_)))))))
 refine ai (ai (fun _=>trivial) ?_) trivial
 exact rfl
def bsR (l:List Bool):LV:=.rw 4 1 l.length (fun k=>[bP (l.getD k false)])
theorem aom {m:List Bool} {j:Nat} (hj:j<m.length) (b:Bool):∀k,jV (fun k=>[bP (m.getD k false)]) j 0 [bP b] k=[bP ((m.set j b).getD k false)]:=by
 intro k
 unfold jV
 rw[aa7 (l:=m.set j b),asN]
 by_cases h:k=j
 ·rw[if_pos h,if_pos h.symm,if_pos hj];rfl
 ·rw[if_neg h,if_neg (fun e=>h e.symm),←aa7]
def uZ (x y:Sk):Bool:=x.1==y.1&&x.2==y.2
def jN (l:List Sk) (x:Sk):Bool:=l.any fun y=>uZ x y
def anT (a:List Sk×Sk):Prop:=a.1.length≤1000000
theorem aoI:aK Tryz.prog 159 (bQ (fun a:List Sk×Sk=>[aed a.1,skA a.2]) anT (fun a=>iP (fZ (fun y=>uZ a.2 y) a.1))):=by
 refine aX (Tb:=tab) mixed aA Tryz.func159 rfl rfl ?_
 rintro (a:List Sk×Sk) hpre
 refine ai (ai rfl (ai rfl rfl)) ?_
 have hl:a.1.length≤1000000:=hpre
 refine ei (bF.inv { X:=Nat,up:=fun k=>[(8,.s (iA k))],uo:=fun k=>[],inv:=fun k=>k≤a.1.length∧(∀y∈a.1.take k,uZ a.2 y=false),meas:=fun k=>a.1.length-k,x0:=0 }) ?_
 refine ai (ai (ai (by exact (a4 (ai rfl rfl))) (ai (by exact (ai (ai (fun _=>rfl) (iE (by simp only[zz,reduceCtorEq];rfl))) rfl)) (by exact trivial))) rfl) (ai (ai (ae4 _) ?_) ?_)
 ·exact fun y hy=>absurd hy (by simp)
 intro (k:Nat) ⟨hk,hall⟩
 refine ah (p:=k<a.1.length) (av (by omega)) (fun h1=>?_) (fun h1=>?_)
 ·refine ei (.seq [0,1,2,3,4,5]) (ai (by kernel_rfl) ?_)
  refine ai (ai (abq _) (iN (n:=a.1.length) (by omega))) (ai rfl ?_)
  refine ah (p:=uZ a.2 (a.1.getD k aR)=true) (by (show ((a.2.1==(a.1.getD k aR).1)&&((a.2.2==(a.1.getD k aR).2)&&true))=true↔_;rw[Bool.and_true];exact Iff.rfl)) (fun h2=>?_) (fun h2=>?_)
  ·refine ai (ai (fun _=>trivial) ?_) trivial
   show aB _ (iP (fZ (fun y=>uZ a.2 y) a.1))
   rw[ni (d:=aR) h1 h2 hall]
   exact rfl
  refine ei (k+1) (ai (ai rfl rfl) (ai (ai (ai rfl (ai (ai rfl rfl) (ai (ai rfl rfl) (ai (ai (ai (fun _=>rfl) (aO (by omega))) rfl) trivial)))) rfl) (ai (ai (iL (by omega)) ?_) (iM (by omega)))))
  intro y hy
  rw[aU aR h1] at hy
  rcases ahi.1 hy with hy | hy
  ·exact hall y hy
  ·simp only[agb] at hy;subst hy;simpa using h2
 ·obtain rfl:k=a.1.length:=by omega
  rw[aga] at hall
  refine ai (ai (fun _=>trivial) ?_) trivial
  show aB _ (iP (fZ (fun y=>uZ a.2 y) a.1))
  rw[oC hall]
  exact rfl
theorem aib:aK Tryz.prog 111 (bQ (fun a:List Sk×Sk=>[aed a.1,skA a.2]) anT (fun a=>bP (jN a.1 a.2))):=by
 refine aX (Tb:=tab) mixed aA Tryz.func111 rfl rfl ?_
 rintro (a:List Sk×Sk) hpre
 refine ai (ai rfl (ai rfl rfl)) ?_
 refine ei _ (ai (aoI) (ei (a) (ei [] (ai (a4 (ai (fun _=>Or.inl rfl) (ai nof (Or.inl rfl)))) (ai (by exact (ai (ai rfl (fun _ _=>rfl)) (ai rfl rfl))) (ai trivial (ai (hpre) ?_)))))))
 refine ai (ai (fun _=>trivial) ?_) trivial
 show aB _ (bP (jN a.1 a.2))
 rw[show jN a.1 a.2=decide (0≤fZ (fun y=>uZ a.2 y) a.1) from (mK (fun y=>uZ a.2 y) a.1).symm]
 exact rfl
def onK (c:aW) (m:List Bool) (x:Sk) (k:Nat):Bool:=m.getD k false&&jN (c.sts.getD k st0).st x
def abD (p:Nat→Bool):Nat→Bool
 | 0=>false
 | n+1=>abD p n||p n
theorem aaT {p:Nat→Bool}:∀{n:Nat},(∀j,j<n→p j=false)→abD p n=false
 | 0,_=>rfl
 | n+1,h=>by rw[abD,aaT fun j hj=>h j (by omega),h n (by omega)];rfl
theorem xA {p:Nat→Bool}:∀{n k:Nat},k<n→p k=true→abD p n=true
 | 0,_,h,_=>by omega
 | n+1,k,h,hp=>by
  rw[abD]
  by_cases e:k=n
  ·subst e;rw[hp,att]
  ·rw[xA (n:=n) (by omega) hp,atr]
def onE (c:aW) (m:List Bool) (x:Sk):Bool:=abD (onK c m x) c.sts.length
def mh (c:aW) (m:List Bool):Nat→List Sk
 | 0=>[]
 | n+1=>(mh c m n++if onE c m ((n:Int),false) then [((n:Int),false)] else [])++if onE c m ((n:Int),true) then [((n:Int),true)] else []
theorem aal (c:aW) (m:List Bool):∀n,(mh c m n).length≤2*n
 | 0=>by simp[mh]
 | n+1=>by
  have:=aal c m n
  rw[mh]
  split<;>split<;>simp<;>omega
def skR (l:List Sk):LV:=.rw 94 2 l.length (fun k=>vY (l.getD k aR))
theorem aiN (a:List Sk) (x:Sk):∀k,k<a.length+1→bJ a.length (fun k=>vY (a.getD k aR)) (bg 2 [iP x.1,bP x.2]) k=vY ((a++[x]).getD k aR):=by
 intro k hk
 unfold bJ
 by_cases h:k<a.length
 ·rw[if_pos h]
  show vY (a.getD k aR)=_
  rw[aa7,aa7,aeM h]
 ·obtain rfl:k=a.length:=by omega
  rw[if_neg h,arK,aa7,afK (afM _),arK];rfl
theorem anS {x y:PV}:∀k,k<1→(bg 2 [x,y] k).length=2:=fun k hk=>by
 obtain rfl:k=0:=by omega
 rfl
def uP (c:aW) (a:List Bool):PV:=.tup [nZ (if lD c a=0 then mh c a c.act.toNat else []),iP (lD c a)]
def iX (c:aW) (m:List Bool) (n:Nat):Nat→List Sk
 | 0=>mh c m n
 | 1=>mh c m n++if onE c m ((n:Int),false) then [((n:Int),false)] else []
 | _=>mh c m (n+1)
theorem y5 (c:aW) (m:List Bool) (n:Nat):∀w,w<2→(iX c m n w).length≤2*n+1
 | 0,_=>by have:=aal c m n;show (mh c m n).length≤_;omega
 | 1,_=>by
  have:=aal c m n
  rw[iX];split<;>simp<;>omega
 | w+2,h=>by omega
theorem acg (c:aW) (m:List Bool) (n w:Nat) (h:w<2):iX c m n (w+1)=iX c m n w++if onE c m ((n:Int),w==1) then [((n:Int),w==1)] else []:=by
 match w,h with
 | 0,_=>rfl
 | 1,_=>rfl
def arb:Spec:=bQ (fun a:aW×List Bool=>[kU a.1,vZ a.2]) (fun a=>jf a.1) (fun a=>uP a.1 a.2)
theorem ang:aK Tryz.prog 43 arb:=by
 refine aX (Tb:=tab) mixed aA Tryz.func43 rfl rfl ?_
 rintro ⟨c,a⟩ hpre
 refine ai (ai rfl (ai rfl rfl)) ?_
 have ho:jf c:=hpre
 refine ei _ (ai ((iw alS (c,a) ho (r:=.tup [ow (tJ c a),iP (lD c a)]) rfl)) (ei (()) (ei [] (ai (a4 (ai (fun _=>Or.inl rfl) (ai nof (Or.inl rfl)))) (ai (by exact (ai (ai rfl (ai (ai rfl (fun _ _=>rfl)) (ai (ai rfl (fun _ _=>rfl)) (ai rfl (fun _ _=>rfl))))) (ai rfl (fun _ _=>rfl)))) (ai trivial (ai (trivial) ?_)))))))
 refine bI (p:=lD c a=0) (dh (by omega)) (fun h1=>?_) (fun h1=>?_)
 ·refine ai (ai (fun _=>(by exact (ai trivial trivial))) ?_) trivial
  show aB _ (uP c a)
  rw[uP,if_neg h1]
  exact (ai rfl rfl)
 have hA:uP c a=.tup [nZ (mh c a c.act.toNat),iP 0]:=by unfold uP;rw[if_pos h1,h1]
 obtain ⟨hc,ha,ha24⟩:=afQ h1
 have e1:tJ c a=bT a:=if_pos h1
 obtain ⟨⟨b1,b2⟩,_,⟨b3,b4⟩,_⟩:=iO hc
 refine ei (bF.inv { X:=Nat,up:=fun i=>[(26,.s (iA i)),(8,skR (mh c a i))],uo:=fun i=>[],inv:=fun i=>i≤c.act.toNat∧(True),meas:=fun i=>c.act.toNat-i,x0:=0 }) ?_
 refine ai (ai (ai (by exact (a4 (ai rfl rfl))) (ai (by exact (ai (ai (ai (fun _=>rfl) (iE (by simp only[zz,reduceCtorEq];rfl))) rfl) rfl)) (by exact trivial))) rfl) (ai (ai (ae4 _) ?_) ?_)
 ·trivial
 intro (i:Nat) ⟨hi,_⟩
 refine ah (p:=i<c.act.toNat) (by exact av (show (i:Int)<c.act↔i<c.act.toNat by omega)) (fun h2=>?_) (fun h2=>?_)
 ·refine ei (bF.inv { X:=Nat,up:=fun w=>[(31,.s (iA w)),(8,skR (iX c a i w))],uo:=fun w=>[],inv:=fun w=>w≤2∧(True),meas:=fun w=>2-w,x0:=0 }) ?_
  refine ai (ai (ai (by exact (a4 (ai rfl rfl))) (ai ?_ ?_)) rfl) (ai (ai (ae4 _) ?_) ?_)
  ·exact (ai (ai (ai (fun _=>rfl) (iE (by simp only[zz,reduceCtorEq];rfl))) rfl) (ai rfl (ai rfl (ai rfl (fun _ _=>rfl)))))
  ·exact trivial
  ·trivial
  intro (w:Nat) ⟨hw,_⟩
  refine ah (p:=w<2) (av (by omega)) (fun h6=>?_) (fun h6=>?_)
  ·have hal:=y5 c a i w h6
   rcases (show w=0∨w=1 by omega) with rfl | rfl
   ·have hst:=acg c a i 0 (by decide)
    have hal:(iX c a i 0).length≤100:=by
     have:=y5 c a i 0 (by decide)
     omega
    refine ai (ai (by decide) (by decide)) ?_
    refine ai (by decide) ?_
    refine ei (bF.inv { X:=Nat,up:=fun k=>[(41,.s (iA k)),(8,skR (iX c a i 0))],uo:=fun k=>[],inv:=fun k=>k≤c.sts.length∧(∀j,j<k→onK c a ((i:Int),false) j=false),meas:=fun k=>c.sts.length-k,x0:=0 }) ?_
    refine ai (ai (ai (by exact (a4 (ai rfl rfl))) (ai ?_ ?_)) rfl) (ai (ai (ae4 _) ?_) ?_)
    ·exact (ai (ai (ai (fun _=>rfl) (iE (by simp only[zz,reduceCtorEq];rfl))) rfl) (ai rfl (ai rfl (ai rfl (fun _ _=>rfl)))))
    ·exact trivial
    ·exact fun j hj=>absurd hj (ai8 _)
    intro (k:Nat) ⟨hk,hall⟩
    refine ah (p:=k<c.sts.length) (av (by dsimp only;omega)) (fun h3=>?_) (fun h3=>?_)
    ·refine ai (ai (abq _) (iN (n:=c.sts.length) (by omega))) (ai rfl ?_)
     refine ai (ai (abq _) (by show (k:Int)<24;omega)) ?_
     refine ai (by show 0+((k:Nat):Int).toNat*1<24;rw[aob];omega) ?_
     have hmk:(tJ c a).getD (0+((k:Nat):Int).toNat*1) false=a.getD k false:=by rw[aob,anW,agC,e1];exact lF a k
     refine ah (p:=a.getD k false=true) (by rw[hmk]) (fun h4=>?_) (fun h4=>?_)
     ·refine ei _ (ai (aib) (ei (((c.sts.getD k st0).st,((i:Int),false))) (ei [] (ai (a4 (ai (fun _=>Or.inl rfl) (ai nof (Or.inl rfl)))) (ai (by exact (ai (ai rfl (fun _ _=>rfl)) (ai rfl rfl))) (ai trivial (ai (ho.1 _ (acH (bH st0 h3))) ?_)))))))
      refine aY (b:=jN (c.sts.getD k st0).st ((i:Int),false)) rfl (fun h5=>?_) (fun h5=>?_)
      ·have hon:onE c a ((i:Int),false)=true:=xA h3 (by unfold onK;rw[h4,h5];rfl)
       have e:iX c a i (0+1)=iX c a i 0++[((i:Int),false)]:=by rw[hst,show ((0:Nat)==1)=false from rfl,if_pos hon]
       refine ai (mxL (n:=(iX c a i 0).length+1) (by omega) (by decide)) (ai anS ?_)
       refine ei (0+1) (ai (ai rfl rfl) (ai (ai (ai rfl (ai (ai rfl rfl) (ai (ai rfl rfl) (ai (ai (ai (ai (fun _=>rfl) (aO (by omega))) rfl) (ai rfl (ai rfl (ai ?_ ?_)))) trivial)))) rfl) (ai (ai (iL (by omega)) trivial) (iM (by omega)))))
       ·rw[e];simp
       ·rw[e];exact aiN (iX c a i 0) ((i:Int),false)
      ·refine ei (k+1) (ai (ai rfl rfl) (ai (ai (ai rfl (ai (ai rfl rfl) (ai (ai rfl rfl) (ai (ai (ai (ai (fun _=>rfl) (aO (by omega))) rfl) (ai rfl (ai rfl (ai rfl (fun _ _=>rfl))))) trivial)))) rfl) (ai (ai (iL (by omega)) ?_) (iM (by omega)))))
       intro j hj
       by_cases hjk:j=k
       ·subst hjk;unfold onK;rw[h5,ata]
       ·exact hall j (by omega)
     ·refine ei (k+1) (ai (ai rfl rfl) (ai (ai (ai rfl (ai (ai rfl rfl) (ai (ai rfl rfl) (ai (ai (ai (ai (fun _=>rfl) (aO (by omega))) rfl) (ai rfl (ai rfl (ai rfl (fun _ _=>rfl))))) trivial)))) rfl) (ai (ai (iL (by omega)) ?_) (iM (by omega)))))
      intro j hj
      by_cases hjk:j=k
      ·subst hjk;unfold onK;rw[arH.2 h4,aqd]
      ·exact hall j (by omega)
    ·obtain rfl:k=c.sts.length:=by omega
     have hon:onE c a ((i:Int),false)=false:=aaT hall
     have e:iX c a i (0+1)=iX c a i 0:=by rw[hst,show ((0:Nat)==1)=false from rfl,if_neg (by rw[hon];decide),ap7]
     refine ei (0+1) (ai (ai rfl rfl) (ai (ai (ai rfl (ai (ai rfl rfl) (ai (ai rfl rfl) (ai (ai (ai (ai (fun _=>rfl) (aO (by omega))) rfl) (ai rfl (ai rfl (ai ?_ ?_)))) trivial)))) rfl) (ai (ai (iL (by omega)) trivial) (iM (by omega)))))
     ·rw[e]
     ·rw[e];exact fun _ _=>rfl
   ·have hst:=acg c a i 1 (by decide)
    have hal:(iX c a i 1).length≤100:=by
     have:=y5 c a i 1 (by decide)
     omega
    refine ai (ai (by decide) (by decide)) ?_
    refine ai (by decide) ?_
    refine ei (bF.inv { X:=Nat,up:=fun k=>[(41,.s (iA k)),(8,skR (iX c a i 1))],uo:=fun k=>[],inv:=fun k=>k≤c.sts.length∧(∀j,j<k→onK c a ((i:Int),true) j=false),meas:=fun k=>c.sts.length-k,x0:=0 }) ?_
    refine ai (ai (ai (by exact (a4 (ai rfl rfl))) (ai ?_ ?_)) rfl) (ai (ai (ae4 _) ?_) ?_)
    ·exact (ai (ai (ai (fun _=>rfl) (iE (by simp only[zz,reduceCtorEq];rfl))) rfl) (ai rfl (ai rfl (ai rfl (fun _ _=>rfl)))))
    ·exact trivial
    ·exact fun j hj=>absurd hj (ai8 _)
    intro (k:Nat) ⟨hk,hall⟩
    refine ah (p:=k<c.sts.length) (av (by dsimp only;omega)) (fun h3=>?_) (fun h3=>?_)
    ·refine ai (ai (abq _) (iN (n:=c.sts.length) (by omega))) (ai rfl ?_)
     refine ai (ai (abq _) (by show (k:Int)<24;omega)) ?_
     refine ai (by show 0+((k:Nat):Int).toNat*1<24;rw[aob];omega) ?_
     have hmk:(tJ c a).getD (0+((k:Nat):Int).toNat*1) false=a.getD k false:=by rw[aob,anW,agC,e1];exact lF a k
     refine ah (p:=a.getD k false=true) (by rw[hmk]) (fun h4=>?_) (fun h4=>?_)
     ·refine ei _ (ai (aib) (ei (((c.sts.getD k st0).st,((i:Int),true))) (ei [] (ai (a4 (ai (fun _=>Or.inl rfl) (ai nof (Or.inl rfl)))) (ai (by exact (ai (ai rfl (fun _ _=>rfl)) (ai rfl rfl))) (ai trivial (ai (ho.1 _ (acH (bH st0 h3))) ?_)))))))
      refine aY (b:=jN (c.sts.getD k st0).st ((i:Int),true)) rfl (fun h5=>?_) (fun h5=>?_)
      ·have hon:onE c a ((i:Int),true)=true:=xA h3 (by unfold onK;rw[h4,h5];rfl)
       have e:iX c a i (1+1)=iX c a i 1++[((i:Int),true)]:=by rw[hst,show ((1:Nat)==1)=true from rfl,if_pos hon]
       refine ai (mxL (n:=(iX c a i 1).length+1) (by omega) (by decide)) (ai anS ?_)
       refine ei (1+1) (ai (ai rfl rfl) (ai (ai (ai rfl (ai (ai rfl rfl) (ai (ai rfl rfl) (ai (ai (ai (ai (fun _=>rfl) (aO (by omega))) rfl) (ai rfl (ai rfl (ai ?_ ?_)))) trivial)))) rfl) (ai (ai (iL (by omega)) trivial) (iM (by omega)))))
       ·rw[e];simp
       ·rw[e];exact aiN (iX c a i 1) ((i:Int),true)
      ·refine ei (k+1) (ai (ai rfl rfl) (ai (ai (ai rfl (ai (ai rfl rfl) (ai (ai rfl rfl) (ai (ai (ai (ai (fun _=>rfl) (aO (by omega))) rfl) (ai rfl (ai rfl (ai rfl (fun _ _=>rfl))))) trivial)))) rfl) (ai (ai (iL (by omega)) ?_) (iM (by omega)))))
       intro j hj
       by_cases hjk:j=k
       ·subst hjk;unfold onK;rw[h5,ata]
       ·exact hall j (by omega)
     ·refine ei (k+1) (ai (ai rfl rfl) (ai (ai (ai rfl (ai (ai rfl rfl) (ai (ai rfl rfl) (ai (ai (ai (ai (fun _=>rfl) (aO (by omega))) rfl) (ai rfl (ai rfl (ai rfl (fun _ _=>rfl))))) trivial)))) rfl) (ai (ai (iL (by omega)) ?_) (iM (by omega)))))
      intro j hj
      by_cases hjk:j=k
      ·subst hjk;unfold onK;rw[arH.2 h4,aqd]
      ·exact hall j (by omega)
    ·obtain rfl:k=c.sts.length:=by omega
     have hon:onE c a ((i:Int),true)=false:=aaT hall
     have e:iX c a i (1+1)=iX c a i 1:=by rw[hst,show ((1:Nat)==1)=true from rfl,if_neg (by rw[hon];decide),ap7]
     refine ei (1+1) (ai (ai rfl rfl) (ai (ai (ai rfl (ai (ai rfl rfl) (ai (ai rfl rfl) (ai (ai (ai (ai (fun _=>rfl) (aO (by omega))) rfl) (ai rfl (ai rfl (ai ?_ ?_)))) trivial)))) rfl) (ai (ai (iL (by omega)) trivial) (iM (by omega)))))
     ·rw[e]
     ·rw[e];exact fun _ _=>rfl
  ·obtain rfl:w=2:=by omega
   refine ei (i+1) (ai (ai rfl rfl) (ai (ai (ai rfl (ai (ai rfl rfl) (ai (ai rfl rfl) (ai (ai (ai (ai (fun _=>rfl) (aO (by omega))) rfl) (ai rfl (ai rfl (ai rfl (fun _ _=>rfl))))) trivial)))) rfl) (ai (ai (iL (by omega)) trivial) (iM (by omega)))))
 ·obtain rfl:i=c.act.toNat:=by omega
  refine ai (ai (fun _=>ai (fun k _=>rfl) trivial) ?_) trivial
  show aB _ (uP c a)
  rw[hA]
  exact (ai (ai rfl (fun _ _=>rfl)) rfl)
structure fQ where
 act:Int
 sts:List Stp
def sqK (s:fQ):List PV:=[iP s.act,akr s.sts]
def yj (s:fQ):SV:=.p false (.agg (sqK s))
def lS (l:List Sk) (k:Nat):Int:=if (l.getD k aR).1<0∨6≤(l.getD k aR).1 then 2 else if 0<k∧(l.getD k aR).1=(l.getD (k-1) aR).1 then 7 else if 0<k∧(l.getD k aR).1<(l.getD (k-1) aR).1 then 9 else 0
def dH (x:Stp):Int:=if x.st.length=0 then 13 else if 6<x.st.length then 5 else if ¬dK (lS x.st) x.st.length=0 then dK (lS x.st) x.st.length else if x.wt<0∨1000000<x.wt then 2 else 0
def ajn (x:Int):Bool:=decide (0≤x)&&decide (x<6)
theorem xk {x:Int}:ajn x=true↔0≤x∧x<6:=by unfold ajn;rw[afT,decide_eq_true_iff,decide_eq_true_iff]
theorem aeV:aK Tryz.prog 168 (bQ (fun x:Int=>[iA x]) (fun _=>True) (fun x=>bP (decide (0≤x)&&decide (x<6)))):=by
 refine aX (Tb:=tab) mixed aA Tryz.func168 rfl rfl ?_
 rintro (x:Int) hpre
 refine ai (ai rfl (ai rfl rfl)) ?_
 refine ah (p:=0≤x) (gD (by omega)) (fun h1=>?_) (fun h1=>?_)
 ·refine ai (ai (fun _=>trivial) ?_) trivial
  show aB _ (bP (decide (0≤x)&&decide (x<6)))
  rw[decide_eq_true h1,arL]
  exact rfl
 ·refine ai (ai (fun _=>trivial) ?_) trivial
  show aB _ (bP (decide (0≤x)&&decide (x<6)))
  rw[decide_eq_false h1,aqd]
  exact rfl
theorem ahV:aK Tryz.prog 194 (bQ (fun x:Int=>[iA x]) (fun _=>True) (fun x=>bP (decide (0≤x)&&decide (x<6)))):=by
 refine aX (Tb:=tab) mixed aA Tryz.func194 rfl rfl ?_
 rintro (x:Int) hpre
 refine ai (ai rfl (ai rfl rfl)) ?_
 refine ah (p:=0≤x) (gD (by omega)) (fun h1=>?_) (fun h1=>?_)
 ·refine ai (ai (fun _=>trivial) ?_) trivial
  show aB _ (bP (decide (0≤x)&&decide (x<6)))
  rw[decide_eq_true h1,arL]
  exact rfl
 ·refine ai (ai (fun _=>trivial) ?_) trivial
  show aB _ (bP (decide (0≤x)&&decide (x<6)))
  rw[decide_eq_false h1,aqd]
  exact rfl
theorem aoA:aK Tryz.prog 195 (bQ (fun x:Int=>[iA x]) (fun _=>True) (fun x=>bP (decide (0≤x)&&decide (x≤1000000)))):=by
 refine aX (Tb:=tab) mixed aA Tryz.func195 rfl rfl ?_
 rintro (x:Int) hpre
 refine ai (ai rfl (ai rfl rfl)) ?_
 refine ah (p:=0≤x) (gD (by omega)) (fun h1=>?_) (fun h1=>?_)
 ·refine ai (ai (fun _=>trivial) ?_) trivial
  show aB _ (bP (decide (0≤x)&&decide (x≤1000000)))
  rw[decide_eq_true h1,arL]
  exact rfl
 ·refine ai (ai (fun _=>trivial) ?_) trivial
  show aB _ (bP (decide (0≤x)&&decide (x≤1000000)))
  rw[decide_eq_false h1,aqd]
  exact rfl
def uK (l:List Sk) (k:Nat):Int:=if k=0 then -1 else (l.getD (k-1) aR).1
def aqs:Spec:=bQ (fun x:Stp=>[stA x]) (fun _=>True) (fun x=>iP (dH x))
theorem aqj:aK Tryz.prog 164 aqs:=by
 refine aX (Tb:=tab) mixed aA Tryz.func164 rfl rfl ?_
 rintro (x:Stp) hpre
 refine ai (ai rfl (ai rfl rfl)) ?_
 refine ah (p:=x.st.length=0) (iI (by omega)) (fun h1=>?_) (fun h1=>?_)
 ·refine ai (ai (fun _=>trivial) ?_) trivial
  show aB _ (iP (dH x))
  rw[dH,if_pos h1]
  exact rfl
 refine ah (p:=6<x.st.length) (av (by omega)) (fun h2=>?_) (fun h2=>?_)
 ·refine ai (ai (fun _=>trivial) ?_) trivial
  show aB _ (iP (dH x))
  rw[dH,if_neg h1,if_pos h2]
  exact rfl
 have hA:∀e,dK (lS x.st) x.st.length=e→¬e=0→dH x=e:=fun e h h0=>by unfold dH;rw[if_neg h1,if_neg h2,if_pos (by rw[h];exact h0),h]
 refine ei (bF.inv { X:=Nat,up:=fun k=>[(19,.s (iA k)),(4,.s (iA (uK x.st k)))],uo:=fun k=>[],inv:=fun k=>k≤x.st.length∧(∀j,j<k→lS x.st j=0),meas:=fun k=>x.st.length-k,x0:=0 }) ?_
 refine ai (ai (ai (by exact (a4 (ai rfl rfl))) (ai (by exact (ai (ai (ai (fun _=>rfl) (iE (by simp only[zz,reduceCtorEq];rfl))) rfl) (ai (ai (fun _=>rfl) (iE (by simp only[zz,reduceCtorEq];rfl))) rfl))) (by exact trivial))) rfl) (ai (ai (ae4 _) ?_) ?_)
 ·exact fun j hj=>absurd hj (ai8 _)
 intro (k:Nat) ⟨hk,hall⟩
 refine ah (p:=k<x.st.length) (av (by omega)) (fun h3=>?_) (fun h3=>?_)
 ·refine ai (ai (abq _) (iN (n:=x.st.length) (by omega))) (ai rfl ?_)
  refine ei _ (ai (aeV) (ei ((x.st.getD k aR).1) (ei [] (ai (a4 (ai (fun _=>Or.inl rfl) (ai nof (Or.inl rfl)))) (ai (by exact (iE (by simp only[zz,reduceCtorEq]))) (ai trivial (ai (trivial) ?_)))))))
  refine aY (b:=!ajn (x.st.getD k aR).1) rfl (fun h4=>?_) (fun h4=>?_)
  ·have h4:¬(0≤(x.st.getD k aR).1∧(x.st.getD k aR).1<6):=by rw[←xk];simpa using h4
   have e:lS x.st k=2:=by unfold lS;rw[if_pos (by omega)]
   refine ai (ai (fun _=>trivial) ?_) trivial
   show aB _ (iP (dH x))
   rw[hA 2 ((d9 h3 hall (by rw[e];decide)).trans e) (by decide)]
   exact rfl
  have h4:0≤(x.st.getD k aR).1∧(x.st.getD k aR).1<6:=by rw[←xk];simpa using h4
  refine ah (p:=(x.st.getD k aR).1=uK x.st k) (by simp only[zz,reduceCtorEq]) (fun h5=>?_) (fun h5=>?_)
  ·have hk0:0<k:=by
    rcases apT k with e | e
    ·subst e;unfold uK at h5;rw[if_pos rfl] at h5;omega
    ·exact e
   have h5:(x.st.getD k aR).1=(x.st.getD (k-1) aR).1:=by unfold uK at h5;rwa [if_neg (by omega)] at h5
   have e:lS x.st k=7:=by unfold lS;rw[if_neg (by omega),if_pos ⟨hk0,h5⟩]
   refine ai (ai (fun _=>trivial) ?_) trivial
   show aB _ (iP (dH x))
   rw[hA 7 ((d9 h3 hall (by rw[e];decide)).trans e) (by decide)]
   exact rfl
  refine ah (p:=(x.st.getD k aR).1<uK x.st k) (av Iff.rfl) (fun h6=>?_) (fun h6=>?_)
  ·have hk0:0<k:=by
    rcases apT k with e | e
    ·subst e;unfold uK at h6;rw[if_pos rfl] at h6;omega
    ·exact e
   have h6:(x.st.getD k aR).1<(x.st.getD (k-1) aR).1:=by unfold uK at h6;rwa [if_neg (by omega)] at h6
   have e:lS x.st k=9:=by unfold lS;rw[if_neg (by omega),if_neg (by omega),if_pos ⟨hk0,h6⟩]
   refine ai (ai (fun _=>trivial) ?_) trivial
   show aB _ (iP (dH x))
   rw[hA 9 ((d9 h3 hall (by rw[e];decide)).trans e) (by decide)]
   exact rfl
  refine ei (k+1) (ai (ai rfl rfl) (ai (ai (ai rfl (ai (ai rfl rfl) (ai (ai rfl rfl) (ai (ai (ai (ai (fun _=>rfl) (aO (by omega))) rfl) (ai (ai nof (iE (by simp only[zz,reduceCtorEq];rfl))) rfl)) trivial)))) rfl) (ai (ai (iL (by omega)) ?_) (iM (by omega)))))
  intro j hj
  by_cases hjk:j=k
  ·subst hjk
   unfold uK at h5 h6
   unfold lS
   rw[if_neg (by omega)]
   by_cases e0:j=0
   ·rw[if_neg (by omega),if_neg (by omega)]
   ·rw[if_neg e0] at h5 h6
    rw[if_neg (fun h=>h5 h.2),if_neg (fun h=>h6 h.2)]
  ·exact hall j (by omega)
 ·obtain rfl:k=x.st.length:=by omega
  have e2:dK (lS x.st) x.st.length=0:=fq hall
  have hB:dH x=if x.wt<0∨1000000<x.wt then 2 else 0:=by unfold dH;rw[if_neg h1,if_neg h2,if_neg (fun h=>h e2)]
  refine ah (p:=x.wt<0) (av (by omega)) (fun h7=>?_) (fun h7=>?_)
  ·refine ai (ai (fun _=>trivial) ?_) trivial
   show aB _ (iP (dH x))
   rw[hB,if_pos (.inl h7)]
   exact rfl
  refine ah (p:=1000000<x.wt) (av (by omega)) (fun h8=>?_) (fun h8=>?_)
  ·refine ai (ai (fun _=>trivial) ?_) trivial
   show aB _ (iP (dH x))
   rw[hB,if_pos (.inr h8)]
   exact rfl
  ·refine ai (ai (fun _=>trivial) ?_) trivial
   show aB _ (iP (dH x))
   rw[hB,if_neg (by omega)]
   exact rfl
theorem apz:aK Tryz.prog 155 aqs:=by
 refine aX (Tb:=tab) mixed aA Tryz.func155 rfl rfl ?_
 rintro (x:Stp) hpre
 refine ai (ai rfl (ai rfl rfl)) ?_
 refine ah (p:=x.st.length=0) (iI (by omega)) (fun h1=>?_) (fun h1=>?_)
 ·refine ai (ai (fun _=>trivial) ?_) trivial
  show aB _ (iP (dH x))
  rw[dH,if_pos h1]
  exact rfl
 refine ah (p:=6<x.st.length) (av (by omega)) (fun h2=>?_) (fun h2=>?_)
 ·refine ai (ai (fun _=>trivial) ?_) trivial
  show aB _ (iP (dH x))
  rw[dH,if_neg h1,if_pos h2]
  exact rfl
 have hA:∀e,dK (lS x.st) x.st.length=e→¬e=0→dH x=e:=fun e h h0=>by unfold dH;rw[if_neg h1,if_neg h2,if_pos (by rw[h];exact h0),h]
 refine ei (bF.inv { X:=Nat,up:=fun k=>[(3,.s (iA k))],uo:=fun k=>[],inv:=fun k=>k≤x.st.length∧(∀j,j<k→lS x.st j=0),meas:=fun k=>x.st.length-k,x0:=0 }) ?_
 refine ai (ai (ai (by exact (a4 (ai rfl rfl))) (ai (by exact (ai (ai (fun _=>rfl) (iE (by simp only[zz,reduceCtorEq];rfl))) rfl)) (by exact trivial))) rfl) (ai (ai (ae4 _) ?_) ?_)
 ·exact fun j hj=>absurd hj (ai8 _)
 intro (k:Nat) ⟨hk,hall⟩
 refine ah (p:=k<x.st.length) (av (by omega)) (fun h3=>?_) (fun h3=>?_)
 ·refine ai (ai (abq _) (iN (n:=x.st.length) (by omega))) (ai rfl ?_)
  refine ei _ (ai (ahV) (ei ((x.st.getD k aR).1) (ei [] (ai (a4 (ai (fun _=>Or.inl rfl) (ai nof (Or.inl rfl)))) (ai (by exact (iE (by simp only[zz,reduceCtorEq]))) (ai trivial (ai (trivial) ?_)))))))
  refine aY (b:=!ajn (x.st.getD k aR).1) rfl (fun h4=>?_) (fun h4=>?_)
  ·have h4:¬(0≤(x.st.getD k aR).1∧(x.st.getD k aR).1<6):=by rw[←xk];simpa using h4
   have e:lS x.st k=2:=by unfold lS;rw[if_pos (by omega)]
   refine ai (ai (fun _=>trivial) ?_) trivial
   show aB _ (iP (dH x))
   rw[hA 2 ((d9 h3 hall (by rw[e];decide)).trans e) (by decide)]
   exact rfl
  have h4:0≤(x.st.getD k aR).1∧(x.st.getD k aR).1<6:=by rw[←xk];simpa using h4
  refine ei (.seq [0,1,2,3,4,5,6,7,8,9,10,11,12,13,14,15,16,17]) (ai (by kernel_rfl) ?_)
  refine ah (p:=0<k) (av (by omega)) (fun h5=>?_) (fun h5=>?_)
  ·have hw:IntKind.i64.wrap ((k:Int)-1)=((k-1:Nat):Int):=anq h5 (by omega)
   refine ai (ai (abq _) (iN (n:=x.st.length) (by omega))) (ai rfl ?_)
   refine ai (ai (by rw[hw];exact abq _) (by rw[hw];show ((k-1:Nat):Int)<(x.st.length:Int);omega)) ?_
   refine ai rfl ?_
   refine ah (p:=(x.st.getD k aR).1=(x.st.getD (k-1) aR).1) (by exact iI (by rw[hw];exact Iff.rfl)) (fun h6=>?_) (fun h6=>?_)
   ·have e:lS x.st k=7:=by unfold lS;rw[if_neg (by omega),if_pos ⟨h5,h6⟩]
    refine ai (ai (fun _=>trivial) ?_) trivial
    show aB _ (iP (dH x))
    rw[hA 7 ((d9 h3 hall (by rw[e];decide)).trans e) (by decide)]
    exact rfl
   refine ei (.seq [0,1,2,3,4,5,6,7,8,9,10,11,12,13,14,15,16,17]) (ai (by kernel_rfl) ?_)
   refine ah (p:=0<k) (av (by omega)) (fun h7=>?_) (fun h7=>?_)
   ·refine ai (ai (abq _) (iN (n:=x.st.length) (by omega))) (ai rfl ?_)
    refine ai (ai (by rw[hw];exact abq _) (by rw[hw];show ((k-1:Nat):Int)<(x.st.length:Int);omega)) ?_
    refine ai rfl ?_
    refine ah (p:=(x.st.getD k aR).1<(x.st.getD (k-1) aR).1) (by exact av (by rw[hw];exact Iff.rfl)) (fun h8=>?_) (fun h8=>?_)
    ·have e:lS x.st k=9:=by unfold lS;rw[if_neg (by omega),if_neg (fun h=>h6 h.2),if_pos ⟨h5,h8⟩]
     refine ai (ai (fun _=>trivial) ?_) trivial
     show aB _ (iP (dH x))
     rw[hA 9 ((d9 h3 hall (by rw[e];decide)).trans e) (by decide)]
     exact rfl
    ·refine ei (k+1) (ai (ai rfl rfl) (ai (ai (ai rfl (ai (ai rfl rfl) (ai (ai rfl rfl) (ai (ai (ai (fun _=>rfl) (aO (by omega))) rfl) trivial)))) rfl) (ai (ai (iL (by omega)) ?_) (iM (by omega)))))
     intro j hj
     by_cases hjk:j=k
     ·subst hjk
      unfold lS
      rw[if_neg (by omega),if_neg (fun h=>h6 h.2),if_neg (fun h=>h8 h.2)]
     ·exact hall j (by omega)
   ·exact absurd h5 h7
  ·refine ei (.seq [0,1,2,3,4,5,6,7,8,9,10,11,12,13,14,15,16,17]) (ai (by kernel_rfl) ?_)
   refine ah (p:=0<k) (av (by omega)) (fun h7=>?_) (fun h7=>?_)
   ·exact absurd h7 h5
   ·refine ei (k+1) (ai (ai rfl rfl) (ai (ai (ai rfl (ai (ai rfl rfl) (ai (ai rfl rfl) (ai (ai (ai (fun _=>rfl) (aO (by omega))) rfl) trivial)))) rfl) (ai (ai (iL (by omega)) ?_) (iM (by omega)))))
    intro j hj
    by_cases hjk:j=k
    ·subst hjk
     unfold lS
     rw[if_neg (by omega),if_neg (fun h=>h5 h.1),if_neg (fun h=>h5 h.1)]
    ·exact hall j (by omega)
 ·obtain rfl:k=x.st.length:=by omega
  have e2:dK (lS x.st) x.st.length=0:=fq hall
  have hB:dH x=if x.wt<0∨1000000<x.wt then 2 else 0:=by unfold dH;rw[if_neg h1,if_neg h2,if_neg (fun h=>h e2)]
  refine ei _ (ai (aoA) (ei (x.wt) (ei [] (ai (a4 (ai (fun _=>Or.inl rfl) (ai nof (Or.inl rfl)))) (ai (by exact rfl) (ai trivial (ai (trivial) ?_)))))))
  refine aY (b:=!(decide (0≤x.wt)&&decide (x.wt≤1000000))) rfl (fun h7=>?_) (fun h7=>?_)
  ·have h7:¬(0≤x.wt∧x.wt≤1000000):=by
    intro h
    rw[decide_eq_true h.1,decide_eq_true h.2] at h7;cases h7
   refine ai (ai (fun _=>trivial) ?_) trivial
   show aB _ (iP (dH x))
   rw[hB,if_pos (by omega)]
   exact rfl
  ·have h7:0≤x.wt∧x.wt≤1000000:=by
    have:(decide (0≤x.wt)&&decide (x.wt≤1000000))=true:=by simpa using h7
    rwa [afT,decide_eq_true_iff,decide_eq_true_iff] at this
   refine ai (ai (fun _=>trivial) ?_) trivial
   show aB _ (iP (dH x))
   rw[hB,if_neg (by omega)]
   exact rfl
theorem afB {m:List Bool} {j:Nat} (hj:j<m.length) (b:Bool) (k:Nat):qb (eO m) j (bP b) k=eO (m.set j b) k:=by
 unfold qb eO
 rw[aa7,aa7,asN]
 by_cases h:k=j
 ·rw[if_pos h,if_pos h.symm,if_pos hj];rfl
 ·rw[if_neg h,if_neg (fun e=>h e.symm)]
def vK (n:Nat) (l:List Sk):Prop:=∀y∈l,0≤y.1∧y.1<(n:Int)
theorem uH {n:Nat} {l:List Sk} (h:vK n l) {k:Nat} (hk:k<l.length):0≤(l.getD k aR).1∧(l.getD k aR).1<(n:Int):=h _ (acH (bH aR hk))
def l6 (m:List Bool) (l:List Sk):List Bool:=l.foldl (fun m y=>m.set y.1.toNat y.2) m
theorem aeL (m:List Bool) (l:List Sk) (y:Sk):l6 m (l++[y])=(l6 m l).set y.1.toNat y.2:=by unfold l6;rw[asM];rfl
theorem pQ:∀(l:List Sk) (m:List Bool),(l6 m l).length=m.length
 | [],_=>rfl
 | y :: l,m=>by
  show (l6 (m.set y.1.toNat y.2) l).length=_
  rw[pQ l,asK]
theorem jI {x:Stp} (h:dH x=0):(0<x.st.length∧x.st.length≤6)∧vK 6 x.st∧0≤x.wt∧x.wt≤1000000:=by
 unfold dH at h
 split at h
 ·cases h
 rename_i h1
 split at h
 ·cases h
 rename_i h2
 split at h
 ·rename_i h3;exact absurd h h3
 rename_i h3
 split at h
 ·cases h
 rename_i h4
 refine ⟨⟨by omega,by omega⟩,fun y hy=>?_,by omega,by omega⟩
 obtain ⟨i,hi,rfl⟩:=an4 hy
 have h5:=kQ (an3.1 h3) i hi
 unfold lS at h5
 have hg:x.st.getD i aR=x.st[i]:=by rw[aa7,abb hi];rfl
 rw[hg] at h5
 split at h5
 ·cases h5
 ·omega
def enP (m:List Bool):PV:=.arr 6 (eO m)
def enA (m:List Bool):SV:=.p false (enP m)
def enO (m:List Bool):Ob:=.arr 194 6 (eO m)
def xD (act:Int) (l:List Sk):Bool:=l.any fun y=>decide (act≤y.1)
def atE (m:List Bool) (l:List Sk):Bool:=l.any fun y=>iU m y.1==y.2
def jJ (act:Int) (x:Stp) (m:List Bool):Int:=if ¬dH x=0 then dH x else if xD act x.st then 6 else if atE m x.st then 14 else 0
end Go.Sx.Pe
