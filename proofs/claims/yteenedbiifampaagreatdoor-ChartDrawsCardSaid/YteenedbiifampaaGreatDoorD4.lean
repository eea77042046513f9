/- ChartDraws, part 4 of its proof: declarations that the last part uses. -/
import Derived.Test.YteenedbiifampaaGreatDoorD3
set_option maxHeartbeats 1000000
set_option maxRecDepth 4000
set_option linter.unusedSimpArgs false
set_option linter.unusedVariables false
set_option linter.unusedSectionVars false
namespace Go.Sx.Pn
open Go Go.Proofs Go.Sx
def tab:Tab:=[(1,⟨.other,1,8,[.nilFunc]⟩),(2,⟨.int .i64,1,8,[.int .i64 0]⟩),(3,⟨.int .i64,1,8,[.int .i64 0]⟩),(4,⟨.bool,1,1,[.bool false]⟩),(5,⟨.int .u8,1,1,[.int .u8 0]⟩),(6,⟨.int .u8,1,1,[.int .u8 0]⟩),(7,⟨.struct [(0,2),(1,3),(2,4),(3,6)],4,24,[.int .i64 0,.int .i64 0,.bool false,.int .u8 0]⟩),(8,⟨.struct [(0,2),(1,3),(2,4),(3,6)],4,24,[.int .i64 0,.int .i64 0,.bool false,.int .u8 0]⟩),(9,⟨.string,1,16,[.string ByteArray.empty]⟩),(10,⟨.string,1,16,[.string ByteArray.empty]⟩),(11,⟨.string,1,16,[.string ByteArray.empty]⟩),(12,⟨.int .u64,1,8,[.int .u64 0]⟩),(15,⟨.other,1,8,[.pointer none]⟩),(16,⟨.other,1,8,[.pointer none]⟩),(17,⟨.other,1,8,[.pointer none]⟩),(20,⟨.other,1,16,[.nilIface]⟩),(21,⟨.int .i32,1,4,[.int .i32 0]⟩),(22,⟨.slice 9,1,24,[.slice none 0 0]⟩),(23,⟨.slice 108,1,24,[.slice none 0 0]⟩),(24,⟨.slice 81,1,24,[.slice none 0 0]⟩),(25,⟨.struct [(0,3),(1,22),(2,23),(3,24)],4,80,[.int .i64 0,.slice none 0 0,.slice none 0 0,.slice none 0 0]⟩),(26,⟨.struct [(0,3),(1,22),(2,23),(3,24)],4,80,[.int .i64 0,.slice none 0 0,.slice none 0 0,.slice none 0 0]⟩),(27,⟨.other,1,8,[.nilFunc]⟩),(28,⟨.other,1,8,[.nilFunc]⟩),(29,⟨.slice 3,1,24,[.slice none 0 0]⟩),(30,⟨.int .i64,1,8,[.int .i64 0]⟩),(32,⟨.other,1,8,[.nilFunc]⟩),(33,⟨.slice 89,1,24,[.slice none 0 0]⟩),(34,⟨.slice 123,1,24,[.slice none 0 0]⟩),(35,⟨.struct [(0,3),(1,22),(2,33),(3,34)],4,80,[.int .i64 0,.slice none 0 0,.slice none 0 0,.slice none 0 0]⟩),(36,⟨.struct [(0,3),(1,22),(2,33),(3,34)],4,80,[.int .i64 0,.slice none 0 0,.slice none 0 0,.slice none 0 0]⟩),(37,⟨.other,1,8,[.nilFunc]⟩),(39,⟨.other,1,8,[.nilFunc]⟩),(40,⟨.other,1,8,[.nilFunc]⟩),(41,⟨.slice 95,1,24,[.slice none 0 0]⟩),(42,⟨.struct [(0,3),(1,41)],2,32,[.int .i64 0,.slice none 0 0]⟩),(43,⟨.struct [(0,3),(1,41)],2,32,[.int .i64 0,.slice none 0 0]⟩),(46,⟨.other,1,8,[.nilFunc]⟩),(48,⟨.other,1,8,[.nilFunc]⟩),(49,⟨.other,1,8,[.nilFunc]⟩),(50,⟨.other,1,8,[.nilFunc]⟩),(52,⟨.other,1,8,[.nilFunc]⟩),(54,⟨.other,1,8,[.nilFunc]⟩),(56,⟨.other,1,8,[.nilFunc]⟩),(58,⟨.other,1,8,[.nilFunc]⟩),(59,⟨.other,1,8,[.nilFunc]⟩),(60,⟨.other,1,8,[.nilFunc]⟩),(61,⟨.other,1,8,[.nilFunc]⟩),(62,⟨.slice 72,1,24,[.slice none 0 0]⟩),(64,⟨.other,1,8,[.nilFunc]⟩),(66,⟨.other,1,8,[.nilFunc]⟩),(68,⟨.other,1,8,[.nilFunc]⟩),(70,⟨.other,1,8,[.nilFunc]⟩),(71,⟨.other,1,8,[.nilFunc]⟩),(72,⟨.slice 4,1,24,[.slice none 0 0]⟩),(73,⟨.other,1,8,[.nilFunc]⟩),(74,⟨.other,1,8,[.nilFunc]⟩),(75,⟨.other,1,8,[.nilFunc]⟩),(76,⟨.map 3 4,1,8,[.map none]⟩),(77,⟨.slice 79,1,24,[.slice none 0 0]⟩),(78,⟨.struct [(0,3),(1,3),(2,77)],3,40,[.int .i64 0,.int .i64 0,.slice none 0 0]⟩),(79,⟨.struct [(0,3),(1,3),(2,77)],3,40,[.int .i64 0,.int .i64 0,.slice none 0 0]⟩),(80,⟨.struct [(0,29),(1,29),(2,79)],5,88,[.slice none 0 0,.slice none 0 0,.int .i64 0,.int .i64 0,.slice none 0 0]⟩),(81,⟨.struct [(0,29),(1,29),(2,79)],5,88,[.slice none 0 0,.slice none 0 0,.int .i64 0,.int .i64 0,.slice none 0 0]⟩),(82,⟨.other,1,8,[.nilFunc]⟩),(83,⟨.other,1,8,[.nilFunc]⟩),(84,⟨.other,1,8,[.nilFunc]⟩),(87,⟨.slice 94,1,24,[.slice none 0 0]⟩),(88,⟨.struct [(0,87),(1,3)],2,32,[.slice none 0 0,.int .i64 0]⟩),(89,⟨.struct [(0,87),(1,3)],2,32,[.slice none 0 0,.int .i64 0]⟩),(91,⟨.other,1,8,[.nilFunc]⟩),(92,⟨.other,1,8,[.nilFunc]⟩),(93,⟨.struct [(0,3),(1,4)],2,16,[.int .i64 0,.bool false]⟩),(94,⟨.struct [(0,3),(1,4)],2,16,[.int .i64 0,.bool false]⟩),(95,⟨.struct [(0,87),(1,3)],2,32,[.slice none 0 0,.int .i64 0]⟩),(97,⟨.other,1,8,[.nilFunc]⟩),(99,⟨.other,1,8,[.nilFunc]⟩),(100,⟨.map 3 3,1,8,[.map none]⟩),(102,⟨.other,1,8,[.nilFunc]⟩),(107,⟨.other,1,8,[.nilFunc]⟩),(108,⟨.struct [(0,87),(1,3)],2,32,[.slice none 0 0,.int .i64 0]⟩),(109,⟨.other,1,8,[.nilFunc]⟩),(110,⟨.other,1,8,[.nilFunc]⟩),(112,⟨.slice 117,1,24,[.slice none 0 0]⟩),(113,⟨.slice 29,1,24,[.slice none 0 0]⟩),(115,⟨.other,1,8,[.nilFunc]⟩),(116,⟨.array 24 4,24,24,[.bool false,.bool false,.bool false,.bool false,.bool false,.bool false,.bool false,.bool false,.bool false,.bool false,.bool false,.bool false,.bool false,.bool false,.bool false,.bool false,.bool false,.bool false,.bool false,.bool false,.bool false,.bool false,.bool false,.bool false]⟩),(117,⟨.array 24 4,24,24,[.bool false,.bool false,.bool false,.bool false,.bool false,.bool false,.bool false,.bool false,.bool false,.bool false,.bool false,.bool false,.bool false,.bool false,.bool false,.bool false,.bool false,.bool false,.bool false,.bool false,.bool false,.bool false,.bool false,.bool false]⟩),(120,⟨.other,1,8,[.nilFunc]⟩),(121,⟨.other,1,8,[.nilFunc]⟩),(122,⟨.other,1,8,[.nilFunc]⟩),(123,⟨.struct [(0,29),(1,29),(2,79)],5,88,[.slice none 0 0,.slice none 0 0,.int .i64 0,.int .i64 0,.slice none 0 0]⟩),(124,⟨.slice 129,1,24,[.slice none 0 0]⟩),(126,⟨.other,1,8,[.nilFunc]⟩),(127,⟨.other,1,8,[.nilFunc]⟩),(128,⟨.struct [(0,72),(1,29)],2,48,[.slice none 0 0,.slice none 0 0]⟩),(129,⟨.struct [(0,72),(1,29)],2,48,[.slice none 0 0,.slice none 0 0]⟩),(130,⟨.other,1,8,[.nilFunc]⟩),(131,⟨.other,1,8,[.nilFunc]⟩),(132,⟨.other,1,8,[.nilFunc]⟩),(133,⟨.other,1,8,[.nilFunc]⟩),(134,⟨.other,1,8,[.nilFunc]⟩),(135,⟨.other,1,8,[.nilFunc]⟩),(136,⟨.other,1,8,[.nilFunc]⟩),(137,⟨.other,1,8,[.nilFunc]⟩),(138,⟨.other,1,8,[.nilFunc]⟩),(139,⟨.other,1,8,[.nilFunc]⟩),(140,⟨.other,1,8,[.pointer none]⟩),(141,⟨.slice 5,1,24,[.slice none 0 0]⟩),(142,⟨.struct [(0,140),(1,141)],2,32,[.pointer none,.slice none 0 0]⟩),(143,⟨.struct [(0,140),(1,141)],2,32,[.pointer none,.slice none 0 0]⟩),(144,⟨.other,1,16,[.nilIface]⟩),(145,⟨.other,1,16,[.nilIface]⟩),(147,⟨.other,1,8,[.nilFunc]⟩),(148,⟨.other,1,8,[.nilFunc]⟩),(149,⟨.other,1,8,[.nilFunc]⟩),(150,⟨.other,1,8,[.nilFunc]⟩),(152,⟨.other,1,8,[.nilFunc]⟩),(153,⟨.other,1,8,[.nilFunc]⟩),(155,⟨.other,1,8,[.nilFunc]⟩),(156,⟨.other,1,8,[.nilFunc]⟩),(157,⟨.other,1,8,[.nilFunc]⟩),(158,⟨.other,1,8,[.nilFunc]⟩),(159,⟨.other,1,8,[.nilFunc]⟩),(160,⟨.other,1,8,[.nilFunc]⟩),(161,⟨.other,1,8,[.nilFunc]⟩),(163,⟨.other,1,8,[.nilFunc]⟩),(164,⟨.other,1,8,[.nilFunc]⟩),(165,⟨.other,1,8,[.nilFunc]⟩),(166,⟨.other,1,8,[.nilFunc]⟩),(167,⟨.other,1,8,[.nilFunc]⟩),(168,⟨.other,1,8,[.nilFunc]⟩),(169,⟨.other,1,8,[.nilFunc]⟩),(170,⟨.other,1,8,[.nilFunc]⟩),(171,⟨.other,1,8,[.nilFunc]⟩),(172,⟨.other,1,8,[.nilFunc]⟩),(173,⟨.other,1,8,[.nilFunc]⟩),(177,⟨.other,1,8,[.nilFunc]⟩),(178,⟨.other,1,8,[.nilFunc]⟩),(179,⟨.other,1,8,[.nilFunc]⟩),(184,⟨.other,1,8,[.nilFunc]⟩),(185,⟨.other,1,8,[.nilFunc]⟩),(186,⟨.other,1,8,[.nilFunc]⟩),(187,⟨.other,1,8,[.nilFunc]⟩),(188,⟨.other,1,8,[.nilFunc]⟩),(189,⟨.other,1,8,[.nilFunc]⟩),(190,⟨.other,1,8,[.nilFunc]⟩),(191,⟨.other,1,8,[.nilFunc]⟩),(192,⟨.other,1,8,[.nilFunc]⟩),(193,⟨.array 6 4,6,6,[.bool false,.bool false,.bool false,.bool false,.bool false,.bool false]⟩),(194,⟨.array 6 4,6,6,[.bool false,.bool false,.bool false,.bool false,.bool false,.bool false]⟩),(195,⟨.other,1,8,[.nilFunc]⟩),(197,⟨.other,1,8,[.nilFunc]⟩),(198,⟨.other,1,8,[.nilFunc]⟩),(199,⟨.other,1,8,[.nilFunc]⟩),(200,⟨.other,1,8,[.pointer none]⟩),(201,⟨.struct [(0,143),(2,22)],3,56,[.pointer none,.slice none 0 0,.slice none 0 0]⟩),(202,⟨.struct [(0,143),(2,22)],3,56,[.pointer none,.slice none 0 0,.slice none 0 0]⟩),(203,⟨.other,1,8,[.nilFunc]⟩),(204,⟨.other,1,8,[.nilFunc]⟩),(205,⟨.other,1,8,[.nilFunc]⟩),(206,⟨.other,1,8,[.pointer none]⟩),(208,⟨.other,1,8,[.nilFunc]⟩),(209,⟨.other,1,8,[.nilFunc]⟩),(210,⟨.other,1,8,[.nilFunc]⟩),(211,⟨.other,1,8,[.nilFunc]⟩),(212,⟨.other,1,8,[.nilFunc]⟩),(213,⟨.other,1,8,[.nilFunc]⟩),(214,⟨.int .u64,1,8,[.int .u64 0]⟩),(216,⟨.other,1,8,[.nilFunc]⟩),(217,⟨.other,1,8,[.nilFunc]⟩),(218,⟨.other,1,8,[.nilFunc]⟩),(219,⟨.other,1,8,[.nilFunc]⟩),(220,⟨.other,1,8,[.nilFunc]⟩),(222,⟨.other,1,8,[.nilFunc]⟩),(223,⟨.map 117 4,1,8,[.map none]⟩),(224,⟨.other,1,8,[.nilFunc]⟩),(225,⟨.other,1,8,[.nilFunc]⟩),(226,⟨.other,1,8,[.pointer none]⟩),(227,⟨.other,1,8,[.nilFunc]⟩),(228,⟨.other,1,8,[.nilFunc]⟩),(229,⟨.other,1,8,[.nilFunc]⟩),(232,⟨.other,1,8,[.nilFunc]⟩),(233,⟨.other,1,8,[.nilFunc]⟩),(234,⟨.other,1,8,[.nilFunc]⟩),(237,⟨.slice 3,1,24,[.slice none 0 0]⟩),(238,⟨.other,1,8,[.nilFunc]⟩),(239,⟨.other,1,8,[.nilFunc]⟩),(240,⟨.other,1,8,[.nilFunc]⟩),(241,⟨.other,1,8,[.nilFunc]⟩),(243,⟨.int .i64,1,8,[.int .i64 0]⟩),(245,⟨.other,1,8,[.nilFunc]⟩),(246,⟨.other,1,8,[.nilFunc]⟩),(250,⟨.int .u32,1,4,[.int .u32 0]⟩),(252,⟨.int .u64,1,8,[.int .u64 0]⟩),(253,⟨.array 24 5,24,24,[.int .u8 0,.int .u8 0,.int .u8 0,.int .u8 0,.int .u8 0,.int .u8 0,.int .u8 0,.int .u8 0,.int .u8 0,.int .u8 0,.int .u8 0,.int .u8 0,.int .u8 0,.int .u8 0,.int .u8 0,.int .u8 0,.int .u8 0,.int .u8 0,.int .u8 0,.int .u8 0,.int .u8 0,.int .u8 0,.int .u8 0,.int .u8 0]⟩),(256,⟨.other,1,8,[.nilFunc]⟩),(257,⟨.other,1,8,[.nilFunc]⟩),(258,⟨.other,1,8,[.nilFunc]⟩),(260,⟨.struct [(0,3),(1,3),(2,258)],3,24,[.int .i64 0,.int .i64 0,.nilFunc]⟩),(261,⟨.array 5 260,15,120,[.int .i64 0,.int .i64 0,.nilFunc,.int .i64 0,.int .i64 0,.nilFunc,.int .i64 0,.int .i64 0,.nilFunc,.int .i64 0,.int .i64 0,.nilFunc,.int .i64 0,.int .i64 0,.nilFunc]⟩),(265,⟨.int .u64,1,8,[.int .u64 0]⟩),(266,⟨.other,1,8,[.nilFunc]⟩),(267,⟨.other,1,8,[.nilFunc]⟩),(269,⟨.other,1,8,[.pointer none]⟩),(275,⟨.array 20 252,20,160,[.int .u64 0,.int .u64 0,.int .u64 0,.int .u64 0,.int .u64 0,.int .u64 0,.int .u64 0,.int .u64 0,.int .u64 0,.int .u64 0,.int .u64 0,.int .u64 0,.int .u64 0,.int .u64 0,.int .u64 0,.int .u64 0,.int .u64 0,.int .u64 0,.int .u64 0,.int .u64 0]⟩),(276,⟨.array 65 5,65,65,[.int .u8 0,.int .u8 0,.int .u8 0,.int .u8 0,.int .u8 0,.int .u8 0,.int .u8 0,.int .u8 0,.int .u8 0,.int .u8 0,.int .u8 0,.int .u8 0,.int .u8 0,.int .u8 0,.int .u8 0,.int .u8 0,.int .u8 0,.int .u8 0,.int .u8 0,.int .u8 0,.int .u8 0,.int .u8 0,.int .u8 0,.int .u8 0,.int .u8 0,.int .u8 0,.int .u8 0,.int .u8 0,.int .u8 0,.int .u8 0,.int .u8 0,.int .u8 0,.int .u8 0,.int .u8 0,.int .u8 0,.int .u8 0,.int .u8 0,.int .u8 0,.int .u8 0,.int .u8 0,.int .u8 0,.int .u8 0,.int .u8 0,.int .u8 0,.int .u8 0,.int .u8 0,.int .u8 0,.int .u8 0,.int .u8 0,.int .u8 0,.int .u8 0,.int .u8 0,.int .u8 0,.int .u8 0,.int .u8 0,.int .u8 0,.int .u8 0,.int .u8 0,.int .u8 0,.int .u8 0,.int .u8 0,.int .u8 0,.int .u8 0,.int .u8 0,.int .u8 0]⟩),(277,⟨.other,1,8,[.nilFunc]⟩),(282,⟨.other,1,8,[.pointer none]⟩),(284,⟨.other,1,8,[.nilFunc]⟩),(285,⟨.other,1,8,[.nilFunc]⟩),(286,⟨.array 256 4,256,256,(List.replicate 256 (.bool false))⟩),(287,⟨.array 256 4,256,256,(List.replicate 256 (.bool false))⟩),(291,⟨.other,1,8,[.pointer none]⟩),(292,⟨.array 32 5,32,32,[.int .u8 0,.int .u8 0,.int .u8 0,.int .u8 0,.int .u8 0,.int .u8 0,.int .u8 0,.int .u8 0,.int .u8 0,.int .u8 0,.int .u8 0,.int .u8 0,.int .u8 0,.int .u8 0,.int .u8 0,.int .u8 0,.int .u8 0,.int .u8 0,.int .u8 0,.int .u8 0,.int .u8 0,.int .u8 0,.int .u8 0,.int .u8 0,.int .u8 0,.int .u8 0,.int .u8 0,.int .u8 0,.int .u8 0,.int .u8 0,.int .u8 0,.int .u8 0]⟩),(293,⟨.array 64 5,64,64,[.int .u8 0,.int .u8 0,.int .u8 0,.int .u8 0,.int .u8 0,.int .u8 0,.int .u8 0,.int .u8 0,.int .u8 0,.int .u8 0,.int .u8 0,.int .u8 0,.int .u8 0,.int .u8 0,.int .u8 0,.int .u8 0,.int .u8 0,.int .u8 0,.int .u8 0,.int .u8 0,.int .u8 0,.int .u8 0,.int .u8 0,.int .u8 0,.int .u8 0,.int .u8 0,.int .u8 0,.int .u8 0,.int .u8 0,.int .u8 0,.int .u8 0,.int .u8 0,.int .u8 0,.int .u8 0,.int .u8 0,.int .u8 0,.int .u8 0,.int .u8 0,.int .u8 0,.int .u8 0,.int .u8 0,.int .u8 0,.int .u8 0,.int .u8 0,.int .u8 0,.int .u8 0,.int .u8 0,.int .u8 0,.int .u8 0,.int .u8 0,.int .u8 0,.int .u8 0,.int .u8 0,.int .u8 0,.int .u8 0,.int .u8 0,.int .u8 0,.int .u8 0,.int .u8 0,.int .u8 0,.int .u8 0,.int .u8 0,.int .u8 0,.int .u8 0]⟩),(314,⟨.int .i32,1,4,[.int .i32 0]⟩)]
theorem aB:tab.Ok Tryz.prog:=
  Tab.aj (TI.mk' (z:=(.nilFunc)) (TD.au (by kernel_rfl)) (by kernel_rfl) rfl rfl rfl)<|Tab.aj (TI.mk' (z:=(.int .i64 0)) (show Tryz.prog.underlying 2=some (.int .i64) by kernel_rfl) (by kernel_rfl) rfl rfl rfl)<|Tab.aj (TI.mk' (z:=(.int .i64 0)) (show Tryz.prog.underlying 3=some (.int .i64) by kernel_rfl) (by kernel_rfl) rfl rfl rfl)<|Tab.aj (TI.mk' (z:=(.bool false)) (show Tryz.prog.underlying 4=some (.bool) by kernel_rfl) (by kernel_rfl) rfl rfl rfl)<|Tab.aj (TI.mk' (z:=(.int .u8 0)) (show Tryz.prog.underlying 5=some (.int .u8) by kernel_rfl) (by kernel_rfl) rfl rfl rfl)<|Tab.aj (TI.mk' (z:=(.int .u8 0)) (show Tryz.prog.underlying 6=some (.int .u8) by kernel_rfl) (by kernel_rfl) rfl rfl rfl)<|Tab.aj (TI.mk' (z:=(.agg #[.int .i64 0,.int .i64 0,.bool false,.int .u8 0])) (TD.mkStruct (l:=[(0,2),(1,3),(2,4),(3,6)]) (by kernel_rfl) (by kernel_rfl) (by kernel_rfl)) (by kernel_rfl) rfl rfl rfl)<|Tab.aj (TI.mk' (z:=(.agg #[.int .i64 0,.int .i64 0,.bool false,.int .u8 0])) (TD.mkStruct (l:=[(0,2),(1,3),(2,4),(3,6)]) (by kernel_rfl) (by kernel_rfl) (by kernel_rfl)) (by kernel_rfl) rfl rfl rfl)<|Tab.aj (TI.mk' (z:=(.string ByteArray.empty)) (show Tryz.prog.underlying 9=some (.string) by kernel_rfl) (by kernel_rfl) rfl rfl rfl)<|Tab.aj (TI.mk' (z:=(.string ByteArray.empty)) (show Tryz.prog.underlying 10=some (.string) by kernel_rfl) (by kernel_rfl) rfl rfl rfl)<|Tab.aj (TI.mk' (z:=(.string ByteArray.empty)) (show Tryz.prog.underlying 11=some (.string) by kernel_rfl) (by kernel_rfl) rfl rfl rfl)<|Tab.aj (TI.mk' (z:=(.int .u64 0)) (show Tryz.prog.underlying 12=some (.int .u64) by kernel_rfl) (by kernel_rfl) rfl rfl rfl)<|Tab.aj (TI.mk' (z:=(.pointer none)) (TD.au (by kernel_rfl)) (by kernel_rfl) rfl rfl rfl)<|Tab.aj (TI.mk' (z:=(.pointer none)) (TD.au (by kernel_rfl)) (by kernel_rfl) rfl rfl rfl)<|Tab.aj (TI.mk' (z:=(.pointer none)) (TD.au (by kernel_rfl)) (by kernel_rfl) rfl rfl rfl)<|Tab.aj (TI.mk' (z:=(.nilIface)) (TD.au (by kernel_rfl)) (by kernel_rfl) rfl rfl rfl)<|Tab.aj (TI.mk' (z:=(.int .i32 0)) (show Tryz.prog.underlying 21=some (.int .i32) by kernel_rfl) (by kernel_rfl) rfl rfl rfl)<|Tab.aj (TI.mk' (z:=(.slice none 0 0)) (show Tryz.prog.underlying 22=some (.slice 9) by kernel_rfl) (by kernel_rfl) rfl rfl rfl)<|Tab.aj (TI.mk' (z:=(.slice none 0 0)) (show Tryz.prog.underlying 23=some (.slice 108) by kernel_rfl) (by kernel_rfl) rfl rfl rfl)<|Tab.aj (TI.mk' (z:=(.slice none 0 0)) (show Tryz.prog.underlying 24=some (.slice 81) by kernel_rfl) (by kernel_rfl) rfl rfl rfl)<|Tab.aj (TI.mk' (z:=(.agg #[.int .i64 0,.slice none 0 0,.slice none 0 0,.slice none 0 0])) (TD.mkStruct (l:=[(0,3),(1,22),(2,23),(3,24)]) (by kernel_rfl) (by kernel_rfl) (by kernel_rfl)) (by kernel_rfl) rfl rfl rfl)<|Tab.aj (TI.mk' (z:=(.agg #[.int .i64 0,.slice none 0 0,.slice none 0 0,.slice none 0 0])) (TD.mkStruct (l:=[(0,3),(1,22),(2,23),(3,24)]) (by kernel_rfl) (by kernel_rfl) (by kernel_rfl)) (by kernel_rfl) rfl rfl rfl)<|Tab.aj (TI.mk' (z:=(.nilFunc)) (TD.au (by kernel_rfl)) (by kernel_rfl) rfl rfl rfl)<|Tab.aj (TI.mk' (z:=(.nilFunc)) (TD.au (by kernel_rfl)) (by kernel_rfl) rfl rfl rfl)<|Tab.aj (TI.mk' (z:=(.slice none 0 0)) (show Tryz.prog.underlying 29=some (.slice 3) by kernel_rfl) (by kernel_rfl) rfl rfl rfl)<|Tab.aj (TI.mk' (z:=(.int .i64 0)) (show Tryz.prog.underlying 30=some (.int .i64) by kernel_rfl) (by kernel_rfl) rfl rfl rfl)<|Tab.aj (TI.mk' (z:=(.nilFunc)) (TD.au (by kernel_rfl)) (by kernel_rfl) rfl rfl rfl)<|Tab.aj (TI.mk' (z:=(.slice none 0 0)) (show Tryz.prog.underlying 33=some (.slice 89) by kernel_rfl) (by kernel_rfl) rfl rfl rfl)<|Tab.aj (TI.mk' (z:=(.slice none 0 0)) (show Tryz.prog.underlying 34=some (.slice 123) by kernel_rfl) (by kernel_rfl) rfl rfl rfl)<|Tab.aj (TI.mk' (z:=(.agg #[.int .i64 0,.slice none 0 0,.slice none 0 0,.slice none 0 0])) (TD.mkStruct (l:=[(0,3),(1,22),(2,33),(3,34)]) (by kernel_rfl) (by kernel_rfl) (by kernel_rfl)) (by kernel_rfl) rfl rfl rfl)<|Tab.aj (TI.mk' (z:=(.agg #[.int .i64 0,.slice none 0 0,.slice none 0 0,.slice none 0 0])) (TD.mkStruct (l:=[(0,3),(1,22),(2,33),(3,34)]) (by kernel_rfl) (by kernel_rfl) (by kernel_rfl)) (by kernel_rfl) rfl rfl rfl)<|Tab.aj (TI.mk' (z:=(.nilFunc)) (TD.au (by kernel_rfl)) (by kernel_rfl) rfl rfl rfl)<|Tab.aj (TI.mk' (z:=(.nilFunc)) (TD.au (by kernel_rfl)) (by kernel_rfl) rfl rfl rfl)<|Tab.aj (TI.mk' (z:=(.nilFunc)) (TD.au (by kernel_rfl)) (by kernel_rfl) rfl rfl rfl)<|Tab.aj (TI.mk' (z:=(.slice none 0 0)) (show Tryz.prog.underlying 41=some (.slice 95) by kernel_rfl) (by kernel_rfl) rfl rfl rfl)<|Tab.aj (TI.mk' (z:=(.agg #[.int .i64 0,.slice none 0 0])) (TD.mkStruct (l:=[(0,3),(1,41)]) (by kernel_rfl) (by kernel_rfl) (by kernel_rfl)) (by kernel_rfl) rfl rfl rfl)<|Tab.aj (TI.mk' (z:=(.agg #[.int .i64 0,.slice none 0 0])) (TD.mkStruct (l:=[(0,3),(1,41)]) (by kernel_rfl) (by kernel_rfl) (by kernel_rfl)) (by kernel_rfl) rfl rfl rfl)<|Tab.aj (TI.mk' (z:=(.nilFunc)) (TD.au (by kernel_rfl)) (by kernel_rfl) rfl rfl rfl)<|Tab.aj (TI.mk' (z:=(.nilFunc)) (TD.au (by kernel_rfl)) (by kernel_rfl) rfl rfl rfl)<|Tab.aj (TI.mk' (z:=(.nilFunc)) (TD.au (by kernel_rfl)) (by kernel_rfl) rfl rfl rfl)<|Tab.aj (TI.mk' (z:=(.nilFunc)) (TD.au (by kernel_rfl)) (by kernel_rfl) rfl rfl rfl)<|Tab.aj (TI.mk' (z:=(.nilFunc)) (TD.au (by kernel_rfl)) (by kernel_rfl) rfl rfl rfl)<|Tab.aj (TI.mk' (z:=(.nilFunc)) (TD.au (by kernel_rfl)) (by kernel_rfl) rfl rfl rfl)<|Tab.aj (TI.mk' (z:=(.nilFunc)) (TD.au (by kernel_rfl)) (by kernel_rfl) rfl rfl rfl)<|Tab.aj (TI.mk' (z:=(.nilFunc)) (TD.au (by kernel_rfl)) (by kernel_rfl) rfl rfl rfl)<|Tab.aj (TI.mk' (z:=(.nilFunc)) (TD.au (by kernel_rfl)) (by kernel_rfl) rfl rfl rfl)<|Tab.aj (TI.mk' (z:=(.nilFunc)) (TD.au (by kernel_rfl)) (by kernel_rfl) rfl rfl rfl)<|Tab.aj (TI.mk' (z:=(.nilFunc)) (TD.au (by kernel_rfl)) (by kernel_rfl) rfl rfl rfl)<|Tab.aj (TI.mk' (z:=(.slice none 0 0)) (show Tryz.prog.underlying 62=some (.slice 72) by kernel_rfl) (by kernel_rfl) rfl rfl rfl)<|Tab.aj (TI.mk' (z:=(.nilFunc)) (TD.au (by kernel_rfl)) (by kernel_rfl) rfl rfl rfl)<|Tab.aj (TI.mk' (z:=(.nilFunc)) (TD.au (by kernel_rfl)) (by kernel_rfl) rfl rfl rfl)<|Tab.aj (TI.mk' (z:=(.nilFunc)) (TD.au (by kernel_rfl)) (by kernel_rfl) rfl rfl rfl)<|Tab.aj (TI.mk' (z:=(.nilFunc)) (TD.au (by kernel_rfl)) (by kernel_rfl) rfl rfl rfl)<|Tab.aj (TI.mk' (z:=(.nilFunc)) (TD.au (by kernel_rfl)) (by kernel_rfl) rfl rfl rfl)<|Tab.aj (TI.mk' (z:=(.slice none 0 0)) (show Tryz.prog.underlying 72=some (.slice 4) by kernel_rfl) (by kernel_rfl) rfl rfl rfl)<|Tab.aj (TI.mk' (z:=(.nilFunc)) (TD.au (by kernel_rfl)) (by kernel_rfl) rfl rfl rfl)<|Tab.aj (TI.mk' (z:=(.nilFunc)) (TD.au (by kernel_rfl)) (by kernel_rfl) rfl rfl rfl)<|Tab.aj (TI.mk' (z:=(.nilFunc)) (TD.au (by kernel_rfl)) (by kernel_rfl) rfl rfl rfl)<|Tab.aj (TI.mk' (z:=(.map none)) (show Tryz.prog.underlying 76=some (.map 3 4) by kernel_rfl) (by kernel_rfl) rfl rfl rfl)<|Tab.aj (TI.mk' (z:=(.slice none 0 0)) (show Tryz.prog.underlying 77=some (.slice 79) by kernel_rfl) (by kernel_rfl) rfl rfl rfl)<|Tab.aj (TI.mk' (z:=(.agg #[.int .i64 0,.int .i64 0,.slice none 0 0])) (TD.mkStruct (l:=[(0,3),(1,3),(2,77)]) (by kernel_rfl) (by kernel_rfl) (by kernel_rfl)) (by kernel_rfl) rfl rfl rfl)<|Tab.aj (TI.mk' (z:=(.agg #[.int .i64 0,.int .i64 0,.slice none 0 0])) (TD.mkStruct (l:=[(0,3),(1,3),(2,77)]) (by kernel_rfl) (by kernel_rfl) (by kernel_rfl)) (by kernel_rfl) rfl rfl rfl)<|Tab.aj (TI.mk' (z:=(.agg #[.slice none 0 0,.slice none 0 0,.int .i64 0,.int .i64 0,.slice none 0 0])) (TD.mkStruct (l:=[(0,29),(1,29),(2,79)]) (by kernel_rfl) (by kernel_rfl) (by kernel_rfl)) (by kernel_rfl) rfl rfl rfl)<|Tab.aj (TI.mk' (z:=(.agg #[.slice none 0 0,.slice none 0 0,.int .i64 0,.int .i64 0,.slice none 0 0])) (TD.mkStruct (l:=[(0,29),(1,29),(2,79)]) (by kernel_rfl) (by kernel_rfl) (by kernel_rfl)) (by kernel_rfl) rfl rfl rfl)<|Tab.aj (TI.mk' (z:=(.nilFunc)) (TD.au (by kernel_rfl)) (by kernel_rfl) rfl rfl rfl)<|Tab.aj (TI.mk' (z:=(.nilFunc)) (TD.au (by kernel_rfl)) (by kernel_rfl) rfl rfl rfl)<|Tab.aj (TI.mk' (z:=(.nilFunc)) (TD.au (by kernel_rfl)) (by kernel_rfl) rfl rfl rfl)<|Tab.aj (TI.mk' (z:=(.slice none 0 0)) (show Tryz.prog.underlying 87=some (.slice 94) by kernel_rfl) (by kernel_rfl) rfl rfl rfl)<|Tab.aj (TI.mk' (z:=(.agg #[.slice none 0 0,.int .i64 0])) (TD.mkStruct (l:=[(0,87),(1,3)]) (by kernel_rfl) (by kernel_rfl) (by kernel_rfl)) (by kernel_rfl) rfl rfl rfl)<|Tab.aj (TI.mk' (z:=(.agg #[.slice none 0 0,.int .i64 0])) (TD.mkStruct (l:=[(0,87),(1,3)]) (by kernel_rfl) (by kernel_rfl) (by kernel_rfl)) (by kernel_rfl) rfl rfl rfl)<|Tab.aj (TI.mk' (z:=(.nilFunc)) (TD.au (by kernel_rfl)) (by kernel_rfl) rfl rfl rfl)<|Tab.aj (TI.mk' (z:=(.nilFunc)) (TD.au (by kernel_rfl)) (by kernel_rfl) rfl rfl rfl)<|Tab.aj (TI.mk' (z:=(.agg #[.int .i64 0,.bool false])) (TD.mkStruct (l:=[(0,3),(1,4)]) (by kernel_rfl) (by kernel_rfl) (by kernel_rfl)) (by kernel_rfl) rfl rfl rfl)<|Tab.aj (TI.mk' (z:=(.agg #[.int .i64 0,.bool false])) (TD.mkStruct (l:=[(0,3),(1,4)]) (by kernel_rfl) (by kernel_rfl) (by kernel_rfl)) (by kernel_rfl) rfl rfl rfl)<|Tab.aj (TI.mk' (z:=(.agg #[.slice none 0 0,.int .i64 0])) (TD.mkStruct (l:=[(0,87),(1,3)]) (by kernel_rfl) (by kernel_rfl) (by kernel_rfl)) (by kernel_rfl) rfl rfl rfl)<|Tab.aj (TI.mk' (z:=(.nilFunc)) (TD.au (by kernel_rfl)) (by kernel_rfl) rfl rfl rfl)<|Tab.aj (TI.mk' (z:=(.nilFunc)) (TD.au (by kernel_rfl)) (by kernel_rfl) rfl rfl rfl)<|Tab.aj (TI.mk' (z:=(.map none)) (show Tryz.prog.underlying 100=some (.map 3 3) by kernel_rfl) (by kernel_rfl) rfl rfl rfl)<|Tab.aj (TI.mk' (z:=(.nilFunc)) (TD.au (by kernel_rfl)) (by kernel_rfl) rfl rfl rfl)<|Tab.aj (TI.mk' (z:=(.nilFunc)) (TD.au (by kernel_rfl)) (by kernel_rfl) rfl rfl rfl)<|Tab.aj (TI.mk' (z:=(.agg #[.slice none 0 0,.int .i64 0])) (TD.mkStruct (l:=[(0,87),(1,3)]) (by kernel_rfl) (by kernel_rfl) (by kernel_rfl)) (by kernel_rfl) rfl rfl rfl)<|Tab.aj (TI.mk' (z:=(.nilFunc)) (TD.au (by kernel_rfl)) (by kernel_rfl) rfl rfl rfl)<|Tab.aj (TI.mk' (z:=(.nilFunc)) (TD.au (by kernel_rfl)) (by kernel_rfl) rfl rfl rfl)<|Tab.aj (TI.mk' (z:=(.slice none 0 0)) (show Tryz.prog.underlying 112=some (.slice 117) by kernel_rfl) (by kernel_rfl) rfl rfl rfl)<|Tab.aj (TI.mk' (z:=(.slice none 0 0)) (show Tryz.prog.underlying 113=some (.slice 29) by kernel_rfl) (by kernel_rfl) rfl rfl rfl)<|Tab.aj (TI.mk' (z:=(.nilFunc)) (TD.au (by kernel_rfl)) (by kernel_rfl) rfl rfl rfl)<|Tab.aj (TI.mk' (z:=(.agg #[.bool false,.bool false,.bool false,.bool false,.bool false,.bool false,.bool false,.bool false,.bool false,.bool false,.bool false,.bool false,.bool false,.bool false,.bool false,.bool false,.bool false,.bool false,.bool false,.bool false,.bool false,.bool false,.bool false,.bool false])) (show Tryz.prog.underlying 116=some (.array 24 4) by kernel_rfl) (by kernel_rfl) rfl rfl rfl)<|Tab.aj (TI.mk' (z:=(.agg #[.bool false,.bool false,.bool false,.bool false,.bool false,.bool false,.bool false,.bool false,.bool false,.bool false,.bool false,.bool false,.bool false,.bool false,.bool false,.bool false,.bool false,.bool false,.bool false,.bool false,.bool false,.bool false,.bool false,.bool false])) (show Tryz.prog.underlying 117=some (.array 24 4) by kernel_rfl) (by kernel_rfl) rfl rfl rfl)<|Tab.aj (TI.mk' (z:=(.nilFunc)) (TD.au (by kernel_rfl)) (by kernel_rfl) rfl rfl rfl)<|Tab.aj (TI.mk' (z:=(.nilFunc)) (TD.au (by kernel_rfl)) (by kernel_rfl) rfl rfl rfl)<|Tab.aj (TI.mk' (z:=(.nilFunc)) (TD.au (by kernel_rfl)) (by kernel_rfl) rfl rfl rfl)<|Tab.aj (TI.mk' (z:=(.agg #[.slice none 0 0,.slice none 0 0,.int .i64 0,.int .i64 0,.slice none 0 0])) (TD.mkStruct (l:=[(0,29),(1,29),(2,79)]) (by kernel_rfl) (by kernel_rfl) (by kernel_rfl)) (by kernel_rfl) rfl rfl rfl)<|Tab.aj (TI.mk' (z:=(.slice none 0 0)) (show Tryz.prog.underlying 124=some (.slice 129) by kernel_rfl) (by kernel_rfl) rfl rfl rfl)<|Tab.aj (TI.mk' (z:=(.nilFunc)) (TD.au (by kernel_rfl)) (by kernel_rfl) rfl rfl rfl)<|Tab.aj (TI.mk' (z:=(.nilFunc)) (TD.au (by kernel_rfl)) (by kernel_rfl) rfl rfl rfl)<|Tab.aj (TI.mk' (z:=(.agg #[.slice none 0 0,.slice none 0 0])) (TD.mkStruct (l:=[(0,72),(1,29)]) (by kernel_rfl) (by kernel_rfl) (by kernel_rfl)) (by kernel_rfl) rfl rfl rfl)<|Tab.aj (TI.mk' (z:=(.agg #[.slice none 0 0,.slice none 0 0])) (TD.mkStruct (l:=[(0,72),(1,29)]) (by kernel_rfl) (by kernel_rfl) (by kernel_rfl)) (by kernel_rfl) rfl rfl rfl)<|Tab.aj (TI.mk' (z:=(.nilFunc)) (TD.au (by kernel_rfl)) (by kernel_rfl) rfl rfl rfl)<|Tab.aj (TI.mk' (z:=(.nilFunc)) (TD.au (by kernel_rfl)) (by kernel_rfl) rfl rfl rfl)<|Tab.aj (TI.mk' (z:=(.nilFunc)) (TD.au (by kernel_rfl)) (by kernel_rfl) rfl rfl rfl)<|Tab.aj (TI.mk' (z:=(.nilFunc)) (TD.au (by kernel_rfl)) (by kernel_rfl) rfl rfl rfl)<|Tab.aj (TI.mk' (z:=(.nilFunc)) (TD.au (by kernel_rfl)) (by kernel_rfl) rfl rfl rfl)<|Tab.aj (TI.mk' (z:=(.nilFunc)) (TD.au (by kernel_rfl)) (by kernel_rfl) rfl rfl rfl)<|Tab.aj (TI.mk' (z:=(.nilFunc)) (TD.au (by kernel_rfl)) (by kernel_rfl) rfl rfl rfl)<|Tab.aj (TI.mk' (z:=(.nilFunc)) (TD.au (by kernel_rfl)) (by kernel_rfl) rfl rfl rfl)<|Tab.aj (TI.mk' (z:=(.nilFunc)) (TD.au (by kernel_rfl)) (by kernel_rfl) rfl rfl rfl)<|Tab.aj (TI.mk' (z:=(.nilFunc)) (TD.au (by kernel_rfl)) (by kernel_rfl) rfl rfl rfl)<|Tab.aj (TI.mk' (z:=(.pointer none)) (TD.au (by kernel_rfl)) (by kernel_rfl) rfl rfl rfl)<|Tab.aj (TI.mk' (z:=(.slice none 0 0)) (show Tryz.prog.underlying 141=some (.slice 5) by kernel_rfl) (by kernel_rfl) rfl rfl rfl)<|Tab.aj (TI.mk' (z:=(.agg #[.pointer none,.slice none 0 0])) (TD.mkStruct (l:=[(0,140),(1,141)]) (by kernel_rfl) (by kernel_rfl) (by kernel_rfl)) (by kernel_rfl) rfl rfl rfl)<|Tab.aj (TI.mk' (z:=(.agg #[.pointer none,.slice none 0 0])) (TD.mkStruct (l:=[(0,140),(1,141)]) (by kernel_rfl) (by kernel_rfl) (by kernel_rfl)) (by kernel_rfl) rfl rfl rfl)<|Tab.aj (TI.mk' (z:=(.nilIface)) (TD.au (by kernel_rfl)) (by kernel_rfl) rfl rfl rfl)<|Tab.aj (TI.mk' (z:=(.nilIface)) (TD.au (by kernel_rfl)) (by kernel_rfl) rfl rfl rfl)<|Tab.aj (TI.mk' (z:=(.nilFunc)) (TD.au (by kernel_rfl)) (by kernel_rfl) rfl rfl rfl)<|Tab.aj (TI.mk' (z:=(.nilFunc)) (TD.au (by kernel_rfl)) (by kernel_rfl) rfl rfl rfl)<|Tab.aj (TI.mk' (z:=(.nilFunc)) (TD.au (by kernel_rfl)) (by kernel_rfl) rfl rfl rfl)<|Tab.aj (TI.mk' (z:=(.nilFunc)) (TD.au (by kernel_rfl)) (by kernel_rfl) rfl rfl rfl)<|Tab.aj (TI.mk' (z:=(.nilFunc)) (TD.au (by kernel_rfl)) (by kernel_rfl) rfl rfl rfl)<|Tab.aj (TI.mk' (z:=(.nilFunc)) (TD.au (by kernel_rfl)) (by kernel_rfl) rfl rfl rfl)<|Tab.aj (TI.mk' (z:=(.nilFunc)) (TD.au (by kernel_rfl)) (by kernel_rfl) rfl rfl rfl)<|Tab.aj (TI.mk' (z:=(.nilFunc)) (TD.au (by kernel_rfl)) (by kernel_rfl) rfl rfl rfl)<|Tab.aj (TI.mk' (z:=(.nilFunc)) (TD.au (by kernel_rfl)) (by kernel_rfl) rfl rfl rfl)<|Tab.aj (TI.mk' (z:=(.nilFunc)) (TD.au (by kernel_rfl)) (by kernel_rfl) rfl rfl rfl)<|Tab.aj (TI.mk' (z:=(.nilFunc)) (TD.au (by kernel_rfl)) (by kernel_rfl) rfl rfl rfl)<|Tab.aj (TI.mk' (z:=(.nilFunc)) (TD.au (by kernel_rfl)) (by kernel_rfl) rfl rfl rfl)<|Tab.aj (TI.mk' (z:=(.nilFunc)) (TD.au (by kernel_rfl)) (by kernel_rfl) rfl rfl rfl)<|Tab.aj (TI.mk' (z:=(.nilFunc)) (TD.au (by kernel_rfl)) (by kernel_rfl) rfl rfl rfl)<|Tab.aj (TI.mk' (z:=(.nilFunc)) (TD.au (by kernel_rfl)) (by kernel_rfl) rfl rfl rfl)<|Tab.aj (TI.mk' (z:=(.nilFunc)) (TD.au (by kernel_rfl)) (by kernel_rfl) rfl rfl rfl)<|Tab.aj (TI.mk' (z:=(.nilFunc)) (TD.au (by kernel_rfl)) (by kernel_rfl) rfl rfl rfl)<|Tab.aj (TI.mk' (z:=(.nilFunc)) (TD.au (by kernel_rfl)) (by kernel_rfl) rfl rfl rfl)<|Tab.aj (TI.mk' (z:=(.nilFunc)) (TD.au (by kernel_rfl)) (by kernel_rfl) rfl rfl rfl)<|Tab.aj (TI.mk' (z:=(.nilFunc)) (TD.au (by kernel_rfl)) (by kernel_rfl) rfl rfl rfl)<|Tab.aj (TI.mk' (z:=(.nilFunc)) (TD.au (by kernel_rfl)) (by kernel_rfl) rfl rfl rfl)<|Tab.aj (TI.mk' (z:=(.nilFunc)) (TD.au (by kernel_rfl)) (by kernel_rfl) rfl rfl rfl)<|Tab.aj (TI.mk' (z:=(.nilFunc)) (TD.au (by kernel_rfl)) (by kernel_rfl) rfl rfl rfl)<|Tab.aj (TI.mk' (z:=(.nilFunc)) (TD.au (by kernel_rfl)) (by kernel_rfl) rfl rfl rfl)<|Tab.aj (TI.mk' (z:=(.nilFunc)) (TD.au (by kernel_rfl)) (by kernel_rfl) rfl rfl rfl)<|Tab.aj (TI.mk' (z:=(.nilFunc)) (TD.au (by kernel_rfl)) (by kernel_rfl) rfl rfl rfl)<|Tab.aj (TI.mk' (z:=(.nilFunc)) (TD.au (by kernel_rfl)) (by kernel_rfl) rfl rfl rfl)<|Tab.aj (TI.mk' (z:=(.nilFunc)) (TD.au (by kernel_rfl)) (by kernel_rfl) rfl rfl rfl)<|Tab.aj (TI.mk' (z:=(.nilFunc)) (TD.au (by kernel_rfl)) (by kernel_rfl) rfl rfl rfl)<|Tab.aj (TI.mk' (z:=(.nilFunc)) (TD.au (by kernel_rfl)) (by kernel_rfl) rfl rfl rfl)<|Tab.aj (TI.mk' (z:=(.nilFunc)) (TD.au (by kernel_rfl)) (by kernel_rfl) rfl rfl rfl)<|Tab.aj (TI.mk' (z:=(.nilFunc)) (TD.au (by kernel_rfl)) (by kernel_rfl) rfl rfl rfl)<|Tab.aj (TI.mk' (z:=(.nilFunc)) (TD.au (by kernel_rfl)) (by kernel_rfl) rfl rfl rfl)<|Tab.aj (TI.mk' (z:=(.nilFunc)) (TD.au (by kernel_rfl)) (by kernel_rfl) rfl rfl rfl)<|Tab.aj (TI.mk' (z:=(.nilFunc)) (TD.au (by kernel_rfl)) (by kernel_rfl) rfl rfl rfl)<|Tab.aj (TI.mk' (z:=(.nilFunc)) (TD.au (by kernel_rfl)) (by kernel_rfl) rfl rfl rfl)<|Tab.aj (TI.mk' (z:=(.agg #[.bool false,.bool false,.bool false,.bool false,.bool false,.bool false])) (show Tryz.prog.underlying 193=some (.array 6 4) by kernel_rfl) (by kernel_rfl) rfl rfl rfl)<|Tab.aj (TI.mk' (z:=(.agg #[.bool false,.bool false,.bool false,.bool false,.bool false,.bool false])) (show Tryz.prog.underlying 194=some (.array 6 4) by kernel_rfl) (by kernel_rfl) rfl rfl rfl)<|Tab.aj (TI.mk' (z:=(.nilFunc)) (TD.au (by kernel_rfl)) (by kernel_rfl) rfl rfl rfl)<|Tab.aj (TI.mk' (z:=(.nilFunc)) (TD.au (by kernel_rfl)) (by kernel_rfl) rfl rfl rfl)<|Tab.aj (TI.mk' (z:=(.nilFunc)) (TD.au (by kernel_rfl)) (by kernel_rfl) rfl rfl rfl)<|Tab.aj (TI.mk' (z:=(.nilFunc)) (TD.au (by kernel_rfl)) (by kernel_rfl) rfl rfl rfl)<|Tab.aj (TI.mk' (z:=(.pointer none)) (TD.au (by kernel_rfl)) (by kernel_rfl) rfl rfl rfl)<|Tab.aj (TI.mk' (z:=(.agg #[.pointer none,.slice none 0 0,.slice none 0 0])) (TD.mkStruct (l:=[(0,143),(2,22)]) (by kernel_rfl) (by kernel_rfl) (by kernel_rfl)) (by kernel_rfl) rfl rfl rfl)<|Tab.aj (TI.mk' (z:=(.agg #[.pointer none,.slice none 0 0,.slice none 0 0])) (TD.mkStruct (l:=[(0,143),(2,22)]) (by kernel_rfl) (by kernel_rfl) (by kernel_rfl)) (by kernel_rfl) rfl rfl rfl)<|Tab.aj (TI.mk' (z:=(.nilFunc)) (TD.au (by kernel_rfl)) (by kernel_rfl) rfl rfl rfl)<|Tab.aj (TI.mk' (z:=(.nilFunc)) (TD.au (by kernel_rfl)) (by kernel_rfl) rfl rfl rfl)<|Tab.aj (TI.mk' (z:=(.nilFunc)) (TD.au (by kernel_rfl)) (by kernel_rfl) rfl rfl rfl)<|Tab.aj (TI.mk' (z:=(.pointer none)) (TD.au (by kernel_rfl)) (by kernel_rfl) rfl rfl rfl)<|Tab.aj (TI.mk' (z:=(.nilFunc)) (TD.au (by kernel_rfl)) (by kernel_rfl) rfl rfl rfl)<|Tab.aj (TI.mk' (z:=(.nilFunc)) (TD.au (by kernel_rfl)) (by kernel_rfl) rfl rfl rfl)<|Tab.aj (TI.mk' (z:=(.nilFunc)) (TD.au (by kernel_rfl)) (by kernel_rfl) rfl rfl rfl)<|Tab.aj (TI.mk' (z:=(.nilFunc)) (TD.au (by kernel_rfl)) (by kernel_rfl) rfl rfl rfl)<|Tab.aj (TI.mk' (z:=(.nilFunc)) (TD.au (by kernel_rfl)) (by kernel_rfl) rfl rfl rfl)<|Tab.aj (TI.mk' (z:=(.nilFunc)) (TD.au (by kernel_rfl)) (by kernel_rfl) rfl rfl rfl)<|Tab.aj (TI.mk' (z:=(.int .u64 0)) (show Tryz.prog.underlying 214=some (.int .u64) by kernel_rfl) (by kernel_rfl) rfl rfl rfl)<|Tab.aj (TI.mk' (z:=(.nilFunc)) (TD.au (by kernel_rfl)) (by kernel_rfl) rfl rfl rfl)<|Tab.aj (TI.mk' (z:=(.nilFunc)) (TD.au (by kernel_rfl)) (by kernel_rfl) rfl rfl rfl)<|Tab.aj (TI.mk' (z:=(.nilFunc)) (TD.au (by kernel_rfl)) (by kernel_rfl) rfl rfl rfl)<|Tab.aj (TI.mk' (z:=(.nilFunc)) (TD.au (by kernel_rfl)) (by kernel_rfl) rfl rfl rfl)<|Tab.aj (TI.mk' (z:=(.nilFunc)) (TD.au (by kernel_rfl)) (by kernel_rfl) rfl rfl rfl)<|Tab.aj (TI.mk' (z:=(.nilFunc)) (TD.au (by kernel_rfl)) (by kernel_rfl) rfl rfl rfl)<|Tab.aj (TI.mk' (z:=(.map none)) (show Tryz.prog.underlying 223=some (.map 117 4) by kernel_rfl) (by kernel_rfl) rfl rfl rfl)<|Tab.aj (TI.mk' (z:=(.nilFunc)) (TD.au (by kernel_rfl)) (by kernel_rfl) rfl rfl rfl)<|Tab.aj (TI.mk' (z:=(.nilFunc)) (TD.au (by kernel_rfl)) (by kernel_rfl) rfl rfl rfl)<|Tab.aj (TI.mk' (z:=(.pointer none)) (TD.au (by kernel_rfl)) (by kernel_rfl) rfl rfl rfl)<|Tab.aj (TI.mk' (z:=(.nilFunc)) (TD.au (by kernel_rfl)) (by kernel_rfl) rfl rfl rfl)<|Tab.aj (TI.mk' (z:=(.nilFunc)) (TD.au (by kernel_rfl)) (by kernel_rfl) rfl rfl rfl)<|Tab.aj (TI.mk' (z:=(.nilFunc)) (TD.au (by kernel_rfl)) (by kernel_rfl) rfl rfl rfl)<|Tab.aj (TI.mk' (z:=(.nilFunc)) (TD.au (by kernel_rfl)) (by kernel_rfl) rfl rfl rfl)<|Tab.aj (TI.mk' (z:=(.nilFunc)) (TD.au (by kernel_rfl)) (by kernel_rfl) rfl rfl rfl)<|Tab.aj (TI.mk' (z:=(.nilFunc)) (TD.au (by kernel_rfl)) (by kernel_rfl) rfl rfl rfl)<|Tab.aj (TI.mk' (z:=(.slice none 0 0)) (show Tryz.prog.underlying 237=some (.slice 3) by kernel_rfl) (by kernel_rfl) rfl rfl rfl)<|Tab.aj (TI.mk' (z:=(.nilFunc)) (TD.au (by kernel_rfl)) (by kernel_rfl) rfl rfl rfl)<|Tab.aj (TI.mk' (z:=(.nilFunc)) (TD.au (by kernel_rfl)) (by kernel_rfl) rfl rfl rfl)<|Tab.aj (TI.mk' (z:=(.nilFunc)) (TD.au (by kernel_rfl)) (by kernel_rfl) rfl rfl rfl)<|Tab.aj (TI.mk' (z:=(.nilFunc)) (TD.au (by kernel_rfl)) (by kernel_rfl) rfl rfl rfl)<|Tab.aj (TI.mk' (z:=(.int .i64 0)) (show Tryz.prog.underlying 243=some (.int .i64) by kernel_rfl) (by kernel_rfl) rfl rfl rfl)<|Tab.aj (TI.mk' (z:=(.nilFunc)) (TD.au (by kernel_rfl)) (by kernel_rfl) rfl rfl rfl)<|Tab.aj (TI.mk' (z:=(.nilFunc)) (TD.au (by kernel_rfl)) (by kernel_rfl) rfl rfl rfl)<|Tab.aj (TI.mk' (z:=(.int .u32 0)) (show Tryz.prog.underlying 250=some (.int .u32) by kernel_rfl) (by kernel_rfl) rfl rfl rfl)<|Tab.aj (TI.mk' (z:=(.int .u64 0)) (show Tryz.prog.underlying 252=some (.int .u64) by kernel_rfl) (by kernel_rfl) rfl rfl rfl)<|Tab.aj (TI.mk' (z:=(.agg #[.int .u8 0,.int .u8 0,.int .u8 0,.int .u8 0,.int .u8 0,.int .u8 0,.int .u8 0,.int .u8 0,.int .u8 0,.int .u8 0,.int .u8 0,.int .u8 0,.int .u8 0,.int .u8 0,.int .u8 0,.int .u8 0,.int .u8 0,.int .u8 0,.int .u8 0,.int .u8 0,.int .u8 0,.int .u8 0,.int .u8 0,.int .u8 0])) (show Tryz.prog.underlying 253=some (.array 24 5) by kernel_rfl) (by kernel_rfl) rfl rfl rfl)<|Tab.aj (TI.mk' (z:=(.nilFunc)) (TD.au (by kernel_rfl)) (by kernel_rfl) rfl rfl rfl)<|Tab.aj (TI.mk' (z:=(.nilFunc)) (TD.au (by kernel_rfl)) (by kernel_rfl) rfl rfl rfl)<|Tab.aj (TI.mk' (z:=(.nilFunc)) (TD.au (by kernel_rfl)) (by kernel_rfl) rfl rfl rfl)<|Tab.aj (TI.mk' (z:=(.agg #[.int .i64 0,.int .i64 0,.nilFunc])) (TD.mkStruct (l:=[(0,3),(1,3),(2,258)]) (by kernel_rfl) (by kernel_rfl) (by kernel_rfl)) (by kernel_rfl) rfl rfl rfl)<|Tab.aj (TI.mk' (z:=(.agg #[.int .i64 0,.int .i64 0,.nilFunc,.int .i64 0,.int .i64 0,.nilFunc,.int .i64 0,.int .i64 0,.nilFunc,.int .i64 0,.int .i64 0,.nilFunc,.int .i64 0,.int .i64 0,.nilFunc])) (show Tryz.prog.underlying 261=some (.array 5 260) by kernel_rfl) (by kernel_rfl) rfl rfl rfl)<|Tab.aj (TI.mk' (z:=(.int .u64 0)) (show Tryz.prog.underlying 265=some (.int .u64) by kernel_rfl) (by kernel_rfl) rfl rfl rfl)<|Tab.aj (TI.mk' (z:=(.nilFunc)) (TD.au (by kernel_rfl)) (by kernel_rfl) rfl rfl rfl)<|Tab.aj (TI.mk' (z:=(.nilFunc)) (TD.au (by kernel_rfl)) (by kernel_rfl) rfl rfl rfl)<|Tab.aj (TI.mk' (z:=(.pointer none)) (TD.au (by kernel_rfl)) (by kernel_rfl) rfl rfl rfl)<|Tab.aj (TI.mk' (z:=(.agg #[.int .u64 0,.int .u64 0,.int .u64 0,.int .u64 0,.int .u64 0,.int .u64 0,.int .u64 0,.int .u64 0,.int .u64 0,.int .u64 0,.int .u64 0,.int .u64 0,.int .u64 0,.int .u64 0,.int .u64 0,.int .u64 0,.int .u64 0,.int .u64 0,.int .u64 0,.int .u64 0])) (show Tryz.prog.underlying 275=some (.array 20 252) by kernel_rfl) (by kernel_rfl) rfl rfl rfl)<|Tab.aj (TI.mk' (z:=(.agg #[.int .u8 0,.int .u8 0,.int .u8 0,.int .u8 0,.int .u8 0,.int .u8 0,.int .u8 0,.int .u8 0,.int .u8 0,.int .u8 0,.int .u8 0,.int .u8 0,.int .u8 0,.int .u8 0,.int .u8 0,.int .u8 0,.int .u8 0,.int .u8 0,.int .u8 0,.int .u8 0,.int .u8 0,.int .u8 0,.int .u8 0,.int .u8 0,.int .u8 0,.int .u8 0,.int .u8 0,.int .u8 0,.int .u8 0,.int .u8 0,.int .u8 0,.int .u8 0,.int .u8 0,.int .u8 0,.int .u8 0,.int .u8 0,.int .u8 0,.int .u8 0,.int .u8 0,.int .u8 0,.int .u8 0,.int .u8 0,.int .u8 0,.int .u8 0,.int .u8 0,.int .u8 0,.int .u8 0,.int .u8 0,.int .u8 0,.int .u8 0,.int .u8 0,.int .u8 0,.int .u8 0,.int .u8 0,.int .u8 0,.int .u8 0,.int .u8 0,.int .u8 0,.int .u8 0,.int .u8 0,.int .u8 0,.int .u8 0,.int .u8 0,.int .u8 0,.int .u8 0])) (show Tryz.prog.underlying 276=some (.array 65 5) by kernel_rfl) (by kernel_rfl) rfl rfl rfl)<|Tab.aj (TI.mk' (z:=(.nilFunc)) (TD.au (by kernel_rfl)) (by kernel_rfl) rfl rfl rfl)<|Tab.aj (TI.mk' (z:=(.pointer none)) (TD.au (by kernel_rfl)) (by kernel_rfl) rfl rfl rfl)<|Tab.aj (TI.mk' (z:=(.nilFunc)) (TD.au (by kernel_rfl)) (by kernel_rfl) rfl rfl rfl)<|Tab.aj (TI.mk' (z:=(.nilFunc)) (TD.au (by kernel_rfl)) (by kernel_rfl) rfl rfl rfl)<|Tab.aj (TI.mk' (z:=(.agg (List.replicate 256 (.bool false)).toArray)) (show Tryz.prog.underlying 286=some (.array 256 4) by kernel_rfl) (by kernel_rfl) rfl rfl rfl)<|Tab.aj (TI.mk' (z:=(.agg (List.replicate 256 (.bool false)).toArray)) (show Tryz.prog.underlying 287=some (.array 256 4) by kernel_rfl) (by kernel_rfl) rfl rfl rfl)<|Tab.aj (TI.mk' (z:=(.pointer none)) (TD.au (by kernel_rfl)) (by kernel_rfl) rfl rfl rfl)<|Tab.aj (TI.mk' (z:=(.agg #[.int .u8 0,.int .u8 0,.int .u8 0,.int .u8 0,.int .u8 0,.int .u8 0,.int .u8 0,.int .u8 0,.int .u8 0,.int .u8 0,.int .u8 0,.int .u8 0,.int .u8 0,.int .u8 0,.int .u8 0,.int .u8 0,.int .u8 0,.int .u8 0,.int .u8 0,.int .u8 0,.int .u8 0,.int .u8 0,.int .u8 0,.int .u8 0,.int .u8 0,.int .u8 0,.int .u8 0,.int .u8 0,.int .u8 0,.int .u8 0,.int .u8 0,.int .u8 0])) (show Tryz.prog.underlying 292=some (.array 32 5) by kernel_rfl) (by kernel_rfl) rfl rfl rfl)<|Tab.aj (TI.mk' (z:=(.agg #[.int .u8 0,.int .u8 0,.int .u8 0,.int .u8 0,.int .u8 0,.int .u8 0,.int .u8 0,.int .u8 0,.int .u8 0,.int .u8 0,.int .u8 0,.int .u8 0,.int .u8 0,.int .u8 0,.int .u8 0,.int .u8 0,.int .u8 0,.int .u8 0,.int .u8 0,.int .u8 0,.int .u8 0,.int .u8 0,.int .u8 0,.int .u8 0,.int .u8 0,.int .u8 0,.int .u8 0,.int .u8 0,.int .u8 0,.int .u8 0,.int .u8 0,.int .u8 0,.int .u8 0,.int .u8 0,.int .u8 0,.int .u8 0,.int .u8 0,.int .u8 0,.int .u8 0,.int .u8 0,.int .u8 0,.int .u8 0,.int .u8 0,.int .u8 0,.int .u8 0,.int .u8 0,.int .u8 0,.int .u8 0,.int .u8 0,.int .u8 0,.int .u8 0,.int .u8 0,.int .u8 0,.int .u8 0,.int .u8 0,.int .u8 0,.int .u8 0,.int .u8 0,.int .u8 0,.int .u8 0,.int .u8 0,.int .u8 0,.int .u8 0,.int .u8 0])) (show Tryz.prog.underlying 293=some (.array 64 5) by kernel_rfl) (by kernel_rfl) rfl rfl rfl)<|Tab.aj (TI.mk' (z:=(.int .i32 0)) (show Tryz.prog.underlying 314=some (.int .i32) by kernel_rfl) (by kernel_rfl) rfl rfl rfl)<|Tab.aor
theorem mixed:Tryz.prog.follows .mixedOrders=true:=by kernel_rfl
end Go.Sx.Pn
namespace Go.Sx.Pe
open Go Go.Proofs Go.Sx.Pn
theorem iE {a b:Int} (h:a=b):a=b:=h
theorem iL {a b:Nat} (h:a≤b):a≤b:=h
theorem iM {n k:Nat} (h:k<n):n-(k+1)<n-k:=by omega
theorem iN {k n:Nat} (h:k<n):(k:Int)<(n:Int):=by omega
theorem a4 {α β γ δ:Type} {a:α} {b:β} {c:γ} {d:δ} {p:Prop} (h:p):a=a∧b=b∧c=c∧d=d∧p:=⟨rfl,rfl,rfl,rfl,h⟩
theorem mxL {n s:Nat} (h:n≤10000000) (hs:s≤10000):n≤maxLen∧n*s≤140737488355328:=⟨by unfold maxLen;omega,ahV (Nat.mul_le_mul h hs) (by decide)⟩
theorem lt1 {p:Nat→Prop} (h:p 0) (k:Nat) (hk:k<1):p k:=by
 obtain rfl:k=0:=by omega
 exact h
def iP (n:Int):PV:=.val (.int .i64 n)
def bP (b:Bool):PV:=.val (.bool b)
def sP (s:List UInt8):PV:=.val (.string (strOf s))
def cP (c:UInt8):PV:=.val (.int .u8 (c.toNat:Int))
def iA (n:Int):SV:=.p false (.val (.int .i64 n))
def bA (b:Bool):SV:=.p false (.val (.bool b))
def sA (s:List UInt8):SV:=.p false (.val (.string (strOf s)))
def cA (c:UInt8):SV:=.p false (.val (.int .u8 (c.toNat:Int)))
def oK (l:List Int):PV:=.seq l.length (fun k=>[iP (l.getD k 0)])
def mI (l:List Bool):PV:=.seq l.length (fun k=>[bP (l.getD k false)])
def xM (l:List (List UInt8)):PV:=.seq l.length (fun k=>[sP (l.getD k [])])
def isA (l:List Int):SV:=.p false (oK l)
def bsA (l:List Bool):SV:=.p false (mI l)
def ssA (l:List (List UInt8)):SV:=.p false (xM l)
def bM {α:Type} (args:α→List SV) (pre:α→Prop) (res:α→PV):Spec:={ A:=α,args:=args,objs:=fun _=>[],pre:=pre,res:=res,objs':=fun _=>[],fresh:=true,ro:=0 }
def iq {α:Type} (args:α→List SV) (pre:α→Prop) (res:α→PV):Spec:={ A:=α,args:=args,objs:=fun _=>[],pre:=pre,res:=res,objs':=fun _=>[],fresh:=false,ro:=0 }
theorem y5 {P:Program} {f:Nat} {α:Type} {args:α→List SV} {pre:α→Prop} {res:α→PV} (h:aM P f (bM args pre res)) (a:α) (hp:pre a) {r:PV} (e:res a=r) :
  aM P f (bM (fun _:Unit=>args a) (fun _=>True) (fun _=>r)):=by
 subst e
 exact ⟨h.1,fun _ _ E vs w hg hh hA=>h.2 a hp E vs w hg hh hA⟩
theorem jH {P:Program} {f:Nat} {α:Type} {args:α→List SV} {pre:α→Prop} {res:α→PV} (h:aM P f (iq args pre res)) (a:α) (hp:pre a) {r:PV} (e:res a=r) :
  aM P f (iq (fun _:Unit=>args a) (fun _=>True) (fun _=>r)):=by
 subst e
 exact ⟨h.1,fun _ _ E vs w hg hh hA=>h.2 a hp E vs w hg hh hA⟩
theorem yT {P:Program} {f:Nat} {S:Spec} (m:S.A→Nat) (h:∀n,aM P f { S with pre:=fun a=>S.pre a∧m a≤n }):aM P f S:=
 ⟨(h 0).1,fun a hp E vs w hg hh hA=>(h (m a)).2 a ⟨hp,afi _⟩ E vs w hg hh hA⟩
theorem aX {α:Type} {l:List α} {k:Nat} (d:α) (hk:k<l.length):l.take (k+1)=l.take k++[l.getD k d]:=by
 rw[arP,aa8 hk,aaM,aa8 hk];rfl
theorem bT {α:Type} {l:List α} {k:Nat} (d:α) (h:k<l.length):l[k]?=some (l.getD k d):=by rw[aaM,aa8 h];rfl
structure Ex:Type where
 node ::
 op:Int
 idx:Int
 args:List Ex
mutual
def exC:Ex→List PV
 | .node o i l=>[iP o,iP i,.seq l.length (uP l)]
def uP:List Ex→Nat→List PV
 | [],_=>[]
 | x :: _,0=>exC x
 | _ :: l,k+1=>uP l k
end
def dz:Ex:=.node 0 0 []
def exF (l:List Ex) (k:Nat):List PV:=[iP (l.getD k dz).op,iP (l.getD k dz).idx,.seq (l.getD k dz).args.length (uP (l.getD k dz).args)]
def exK (x:Ex):List PV:=[iP x.op,iP x.idx,.seq x.args.length (exF x.args)]
def exP (x:Ex):PV:=.agg (exK x)
def tL (x:Ex):SV:=.p false (.agg (exK x))
theorem ao1 (o i:Int) (l:List Ex):exC (.node o i l)=[iP o,iP i,.seq l.length (uP l)]:=by rw[exC]
theorem afn:∀(l:List Ex) (k:Nat) (x:Ex),l[k]?=some x→uP l k=exC x
 | [],k,x,h=>by simp at h
 | y :: l,0,x,h=>by simp at h;subst h;rw[uP]
 | y :: l,k+1,x,h=>by rw[uP];exact afn l k x (by simpa using h)
theorem akR (x:Ex):exC x=[iP x.op,iP x.idx,.seq x.args.length (uP x.args)]:=by cases x;rw[ao1]
theorem exE (l:List Ex):∀k,k<l.length→uP l k=exF l k:=fun k hk=>by
 rw[afn l k _ (aa8 hk),akR]
 have:l.getD k dz=l[k]:=by rw[aaM,aa8 hk];rfl
 unfold exF;rw[this]
theorem aqx (l:List Ex):∀k,k<l.length→exF l k=uP l k:=fun k hk=>(exE l k hk).symm
theorem aap {l:List Ex} {k:Nat} (hk:k<l.length):l[k]?=some (l.getD k dz):=bT dz hk
mutual
def Ex.size:Ex→Nat
 | .node _ _ l=>sizes l+1
def sizes:List Ex→Nat
 | []=>0
 | x :: l=>x.size+sizes l
end
mutual
def Ex.deep:Ex→Nat
 | .node _ _ l=>fU l+1
def fU:List Ex→Nat
 | []=>0
 | x :: l=>max x.deep (fU l)
end
theorem Ex.size_eq (x:Ex):x.size=sizes x.args+1:=by cases x;rw[Ex.size]
theorem Ex.aaE (x:Ex):x.deep=fU x.args+1:=by cases x;rw[Ex.deep]
theorem size_pos (x:Ex):0<x.size:=by rw[x.size_eq];omega
theorem afh (x:Ex):0<x.deep:=by rw[x.aaE];omega
theorem kL:∀{l:List Ex} {x:Ex},x∈l→x.size≤sizes l
 | [],x,h=>by simp at h
 | y :: l,x,h=>by
  rw[sizes]
  rcases ahF.1 h with rfl | h
  ·omega
  ·have:=kL h;omega
theorem afx:∀{l:List Ex} {x:Ex},x∈l→x.deep≤fU l
 | [],x,h=>by simp at h
 | y :: l,x,h=>by
  rw[fU]
  rcases ahF.1 h with rfl | h
  ·omega
  ·have:=afx h;omega
theorem yU:∀(l:List Ex),l.length≤sizes l
 | []=>by simp
 | x :: l=>by rw[sizes];have:=yU l;have:=size_pos x;simp;omega
mutual
def dA (d:Nat):Ex→List (Nat×Ex)
 | .node o i l=>(d,.node o i l) :: (if d≤16 then fF (d+1) l else [])
def fF (d:Nat):List Ex→List (Nat×Ex)
 | []=>[]
 | x :: l=>dA d x++fF d l
end
def yP (y:Nat×Ex):List PV:=[iP y.1,exP y.2]
theorem sJ (d:Nat):∀(a b:List Ex),fF d (a++b)=fF d a++fF d b
 | [],b=>by rw[fF];rfl
 | x :: a,b=>by rw[List.cons_append,fF,fF,sJ d a b,arh]
def iQ (d:Nat) (l:List Ex):List (Nat×Ex):=if d≤16 then fF (d+1) l else []
theorem pQ (d:Nat) (o i:Int) (l:List Ex):dA d (.node o i l)=(d,.node o i l) :: iQ d l:=by rw[dA];rfl
theorem akH {d:Nat} (hd:d≤16) {l:List Ex} {k:Nat} {x:Ex} (h:l[k]?=some x):iQ d (l.take (k+1))=iQ d (l.take k)++dA (d+1) x:=by
 unfold iQ
 rw[if_pos hd,if_pos hd,arP,h,sJ]
 show _++fF (d+1) [x]=_
 rw[fF,fF,apD]
def aqt (l:Nat):Ob:=.cells 257 [.p false (.val (.func (.yield l) #[] #[]))]
def aqA:Ob:=.cells 187 [.fn 204 [.own 0 0,.own 1 0]]
def agC (n:Nat):ac3:={ A:=Ex×Nat,args:=fun _ y=>[.p true (.agg (exK y.1)),iA y.2,.own 0 0,.own 1 0],objs:=fun l y=>[aqt l,aqA],pre:=fun y=>y.1.size≤n∧y.2≤17∧y.1.size≤1000000,ys:=fun y=>(dA y.2 y.1).map yP }
theorem ajU (d:Nat) (x:Ex):((dA d x).map yP)[0]?=some (yP (d,x)):=by cases x;rw[pQ];rfl
theorem agc (d:Nat) (x:Ex):dA d x=(d,x) :: iQ d x.args:=by cases x;rw[pQ]
theorem aji {d:Nat} (hd:d≤16) {l:List Ex} {k:Nat} (hk:k<l.length):iQ d l=iQ d (l.take k)++(dA (d+1) (l.getD k dz)++iQ d (l.drop (k+1))):=by
 have e:l=l.take k++(l.getD k dz :: l.drop (k+1)):=by
  have h1:l.drop k=l[k] :: l.drop (k+1):=amM hk
  have h2:l.getD k dz=l[k]:=by rw[aaM,aa8 hk];rfl
  rw[h2,←h1,aqY]
 unfold iQ
 rw[if_pos hd,if_pos hd,if_pos hd]
 conv=>lhs;rw[e]
 rw[sJ,fF]
theorem alx {d:Nat} (hd:d≤16) {x:Ex} {k:Nat} (hk:k<x.args.length) {i:Nat} {v:List PV} (h:((dA (d+1) (x.args.getD k dz)).map yP)[i]?=some v) :
  ((dA d x).map yP)[1+(iQ d (x.args.take k)).length+i]?=some v:=by
 rw[agc,aji hd hk,amH,show 1+(iQ d (x.args.take k)).length+i=(iQ d (x.args.take k)).length+i+1 by omega,akA,aq2,ae5 (by simp),akn,aqr,aq2,aed (abZ.1 h).1]
 exact h
theorem agv:∀n,af8 Tryz.prog 204 (agC n)
 | 0=>by
  refine ajB [] (Tb:=tab) mixed aB Tryz.func204 rfl rfl ?_
  rintro ⟨x,d⟩ ⟨h1,_⟩ L
  have:=size_pos x
  exact absurd h1 (by show ¬x.size≤0;omega)
 | n+1=>by
  have ih:=agv n
  refine ajB [2000000+204] (Tb:=tab) mixed aB Tryz.func204 rfl rfl ?_
  rintro ⟨x,d⟩ ⟨h1,h2,h3⟩ L
  have hsz:sizes x.args+1≤n+1∧sizes x.args+1≤1000000:=by rw[←x.size_eq];exact ⟨h1,h3⟩
  have hd:d≤17:=h2
  refine ai rfl ?_
  refine ai rfl (ei (yP (d,x)) (ai (ajU d x) (ai ?_ (ai ?_ ?_))))
  ·exact (ai (ai trivial rfl) (ai trivial (ai rfl (ai rfl (ai rfl (fun _ _=>rfl))))))
  ·have hlen:=yU x.args
   refine ei (bI.inv { X:=Nat,up:=fun k=>[(17,.s (iA k))],uo:=fun _=>[],inv:=fun k=>k≤x.args.length,meas:=fun k=>x.args.length-k,x0:=0,cnt:=fun k=>some (1+(iQ d (x.args.take k)).length) }) ?_
   refine ai (ai (ai (by exact (a4 (ai rfl rfl))) (ai ?_ ?_)) ?_) (ai ?_ ?_)
   ·exact (ai (ai (fun _=>rfl) rfl) rfl)
   ·exact trivial
   ·show some (0+1)=some (1+(iQ d (x.args.take 0)).length)
    unfold iQ;split<;>simp[fF]
   ·exact aef _
   intro (k:Nat) (hk:k≤x.args.length)
   refine ah (p:=k<x.args.length) (av (by dsimp only;omega)) (fun hkl=>?_) (fun hkl=>?_)
   ·refine ai (ai (abJ _) (by show (k:Int)<(x.args.length:Int);omega)) (ai rfl ?_)
    refine ah (p:=d≤16) (fJ (by omega)) (fun hdd=>?_) (fun hdd=>?_)
    ·have hget:=aap hkl
     have hy:=kL (aee hget)
     refine ei (agC n) (ai ih (ei (x.args.getD k dz,d+1) (ei [0,1] (ai (ai rfl (ai rfl rfl)) (ai ?_ (ai ?_ (ai ?_ (ai ?_ (ai ?_ ?_)))))))))
     ·exact (ai (ai (iE (by simp only[zz,reduceCtorEq])) (ai (iE (by simp only[zz,reduceCtorEq])) (ai rfl (exE _)))) (ai (aN (by omega)) (ai (ai rfl rfl) (ai rfl rfl))))
     ·exact (ai (ai rfl rfl) (ai rfl (ai rfl (ai (ai rfl rfl) (ai rfl rfl)))))
     ·exact ⟨by show (x.args.getD k dz).size≤n;omega,by show d+1≤17;omega,by show (x.args.getD k dz).size≤1000000;omega⟩
     ·exact fun i vs hi=>alx hdd hkl hi
     ·refine ei ((k+1)) (ai (ai rfl rfl) (ai (ai ?_ ?_) (ai ?_ ?_)))
      ·exact (ai rfl (ai (ai rfl rfl) (ai (ai rfl rfl) (ai (ai (ai (fun _=>rfl) (aN (by omega))) rfl) trivial))))
      ·show some (1+(iQ d (x.args.take k)).length+((dA (d+1) (x.args.getD k dz)).map yP).length)=some (1+(iQ d (x.args.take (k+1))).length)
       rw[akH hdd hget,akn,aac,arj]
      ·show k+1≤x.args.length;omega
      ·show x.args.length-(k+1)<x.args.length-k;omega
     ·exact rfl
    ·refine ei ((k+1)) (ai (ai rfl rfl) (ai (ai ?_ ?_) (ai ?_ ?_)))
     ·exact (ai rfl (ai (ai rfl rfl) (ai (ai rfl rfl) (ai (ai (ai (fun _=>rfl) (aN (by omega))) rfl) trivial))))
     ·show some (1+(iQ d (x.args.take k)).length)=some (1+(iQ d (x.args.take (k+1))).length)
      unfold iQ;rw[if_neg hdd,if_neg hdd]
     ·show k+1≤x.args.length;omega
     ·show x.args.length-(k+1)<x.args.length-k;omega
   ·obtain rfl:k=x.args.length:=by omega
    refine ai rfl ?_
    show 1+(iQ d (x.args.take x.args.length)).length=((dA d x).map yP).length
    rw[afz,agc,amH,ah6,akn,Nat.add_comm]
  ·exact rfl
def preS:uS:={ A:=Ex,capt:=fun x=>[.pt (exK x) 0],pre:=fun x=>x.size≤1000000,xs:=fun x=>(dA 1 x).map yP }
theorem agD:aiS Tryz.prog 203 preS:=by
 refine apf [2000000+204] (Tb:=tab) mixed aB Tryz.func203 rfl rfl ?_
 intro (x:Ex) hpre
 refine ai rfl ?_
 intro L
 refine ei (agC x.size) (ai (agv x.size) (ei (x,1) (ei [0,1] (ai (ai rfl (ai rfl rfl)) (ai ?_ (ai ?_ (ai ?_ (ai ?_ (ai ?_ ?_)))))))))
 ·exact (ai (ai rfl (ai rfl (ai rfl (fun _ _=>rfl)))) (ai (iE (by simp only[zz,reduceCtorEq];rfl)) (ai (ai rfl rfl) (ai rfl rfl))))
 ·exact (ai (ai rfl rfl) (ai rfl (ai rfl (ai (ai rfl rfl) (ai rfl rfl)))))
 ·exact ⟨afi _,by show 1≤17;omega,hpre⟩
 ·intro i vs hi
  show ((dA 1 x).map yP)[0+i]?=some vs
  rw[afY];exact hi
 ·refine ai trivial ?_
  show 0+((dA 1 x).map yP).length=((dA 1 x).map yP).length
  rw[afY]
 ·exact ai trivial trivial
def ap0:Spec:=iq (fun x:Ex=>[tL x]) (fun _=>True) (fun x=>.fn 203 [.pt (exK x) 0])
theorem akf:aM Tryz.prog 171 ap0:=by
 refine aW (Tb:=tab) mixed aB Tryz.func171 rfl rfl ?_
 rintro (x:Ex) hpre
 refine ai (ai rfl (ai rfl rfl)) ?_
 refine ai (ai nof ?_) trivial
 exact (ai rfl rfl)
def wN (x:Ex):Option (Nat×Nat):=if x.size≤256∧x.deep≤16 then some (x.size,x.deep) else none
def mh (x:Ex):PV:=match wN x with
 | some (n,d)=>.tup [iP n,iP d,bP true]
 | none=>.tup [iP 0,iP 0,bP false]
def maxD (l:List (Nat×Ex)):Nat:=l.foldl (fun m y=>max m y.1) 0
theorem aj3 (l:List (Nat×Ex)) (y:Nat×Ex):maxD (l++[y])=max (maxD l) y.1:=by unfold maxD;rw[ari];rfl
mutual
theorem ada:∀(x:Ex) (d:Nat),x.deep+d≤17→(dA d x).length=x.size
 | .node o i l,d,h=>by
  have h1:fU l+1+d≤17:=by rw[Ex.aaE] at h;exact h
  rw[pQ,ah6,Ex.size]
  unfold iQ
  rw[if_pos (by omega),agB l (d+1) (by omega)]
theorem agB:∀(l:List Ex) (d:Nat),fU l+d≤17→(fF d l).length=sizes l
 | [],d,h=>by rw[fF,sizes];rfl
 | x :: l,d,h=>by
  rw[fU] at h
  rw[fF,sizes,aac,ada x d (by omega),agB l d (by omega)]
end
theorem foldl_max (l:List (Nat×Ex)):∀m,(∀y∈l,y.1≤l.foldl (fun m y=>max m y.1) m)∧m≤l.foldl (fun m y=>max m y.1) m∧(∀M,m≤M→(∀y∈l,y.1≤M)→l.foldl (fun m y=>max m y.1) m≤M):=by
 induction l with
 | nil=>intro m;simp
 | cons x l ih=>
  intro m
  obtain ⟨h1,h2,h3⟩:=ih (max m x.1)
  refine ⟨fun y hy=>?_,?_,fun M hm hM=>?_⟩
  ·rcases ahF.1 hy with rfl | hy
   ·show y.1≤l.foldl _ (max m y.1)
    exact ahV (Nat.le_max_right _ _) h2
   ·exact h1 y hy
  ·exact ahV (Nat.le_max_left _ _) h2
  ·exact h3 M (by have:=hM x (by simp);omega) fun y hy=>hM y (by simp[hy])
theorem maxD_eq {l:List (Nat×Ex)} {M:Nat} (h1:∀z∈l,z.1≤M) (h2:∃z∈l,z.1=M):maxD l=M:=by
 obtain ⟨g1,g2,g3⟩:=foldl_max l 0
 obtain ⟨z,hz,rfl⟩:=h2
 exact Nat.le_antisymm (g3 _ (aef _) h1) (g1 z hz)
mutual
theorem agP:∀(x:Ex) (d:Nat) (z:Nat×Ex),z∈dA d x→z.1+1≤x.deep+d
 | .node o i l,d,z,h=>by
  rw[pQ] at h
  rw[Ex.deep]
  rcases ahF.1 h with rfl | h
  ·show d+1≤_;omega
  ·unfold iQ at h
   split at h
   ·have:=ahN l (d+1) z h;omega
   ·simp at h
theorem ahN:∀(l:List Ex) (d:Nat) (z:Nat×Ex),z∈fF d l→z.1+1≤fU l+d
 | [],d,z,h=>by rw[fF] at h;simp at h
 | x :: l,d,z,h=>by
  rw[fF] at h
  rw[fU]
  rcases ahq.1 h with h | h
  ·have:=agP x d z h;omega
  ·have:=ahN l d z h;omega
end
mutual
theorem agH:∀(x:Ex) (d e:Nat),d≤e→e≤17→e+1≤x.deep+d→∃z∈dA d x,z.1=e
 | .node o i l,d,e,h1,h2,h3=>by
  rw[Ex.deep] at h3
  rw[pQ]
  by_cases he:d=e
  ·exact ⟨_,amO,he⟩
  ·obtain ⟨z,hz,hz2⟩:=ahY l (d+1) e (by omega) h2 (by omega)
   refine ⟨z,aou _ ?_,hz2⟩
   unfold iQ;rw[if_pos (by omega)];exact hz
theorem ahY:∀(l:List Ex) (d e:Nat),d≤e→e≤17→e+1≤fU l+d→∃z∈fF d l,z.1=e
 | [],d,e,h1,h2,h3=>by rw[fU] at h3;omega
 | x :: l,d,e,h1,h2,h3=>by
  rw[fU] at h3
  rw[fF]
  by_cases hx:e+1≤x.deep+d
  ·obtain ⟨z,hz,hz2⟩:=agH x d e h1 h2 hx
   exact ⟨z,List.mem_append_left _ hz,hz2⟩
  ·obtain ⟨z,hz,hz2⟩:=ahY l d e h1 h2 (by omega)
   exact ⟨z,arV _ hz,hz2⟩
end
theorem aga (x:Ex):(∀z∈dA 1 x,z.1≤16)↔x.deep≤16:=by
 constructor
 ·intro h
  refine Classical.byContradiction fun hn=>?_
  obtain ⟨z,hz,he⟩:=agH x 1 17 (by omega) (by omega) (by omega)
  have:=h z hz;omega
 ·intro h z hz
  have:=agP x 1 z hz;omega
theorem aez {x:Ex} (h1:(dA 1 x).length≤256) (h2:∀z∈dA 1 x,z.1≤16):wN x=some ((dA 1 x).length,maxD (dA 1 x)):=by
 have hd:=(aga x).1 h2
 have hl:=ada x 1 (by omega)
 have hm:maxD (dA 1 x)=x.deep:=maxD_eq (fun z hz=>by have:=agP x 1 z hz;omega) (agH x 1 x.deep (afh x) (by omega) (by omega))
 unfold wN
 rw[if_pos ⟨by omega,hd⟩,hl,hm]
theorem aeh {x:Ex} (h:256<(dA 1 x).length∨∃z∈dA 1 x,16<z.1):wN x=none:=by
 unfold wN
 rw[if_neg]
 rintro ⟨h1,h2⟩
 rcases h with h | ⟨z,hz,h⟩
 ·have:=ada x 1 (by omega);omega
 ·have:=(aga x).2 h2 z hz;omega
theorem akt {l:List (Nat×Ex)} {k:Nat} {vs:List PV} (h:(l.map yP)[k]?=some vs):∃d x,l[k]?=some (d,x)∧vs=[iP d,exP x]:=by
 rw[ahO] at h
 cases hc:l[k]? with
 | none=>rw[hc] at h;cases h
 | some y=>
  rw[hc] at h
  simp only[akO,Option.some.injEq] at h
  exact ⟨y.1,y.2,rfl,h.symm⟩
theorem akM {l:List (Nat×Ex)}:∀v∈l.map yP,v.length=2:=fun v hv=>by
 obtain ⟨y,_,rfl⟩:=aqs.1 hv;rfl
def measS:Spec:=bM (fun x:Ex=>[tL x]) (fun x=>x.size≤1000000) mh
theorem ahv:aM Tryz.prog 170 measS:=by
 refine aW (Tb:=tab) mixed aB Tryz.func170 rfl rfl ?_
 rintro (x:Ex) hpre
 refine ai (ai rfl (ai rfl rfl)) ?_
 refine ei _ (ai (akf) (ei (x) (ei [] (ai (a4 (ai (fun _=>Or.inl rfl) (ai nof (Or.inl rfl)))) (ai (by exact (ai rfl (ai rfl (ai rfl (fun _ _=>rfl))))) (ai trivial (ai (trivial) ?_)))))))
 refine ai (ai rfl rfl) (ei preS (ai agD (ei x (ai ?_ (ai hpre (ai akM (ei { X:=Nat,uo:=fun k=>[⟨4,3,[.s (iA k)]⟩,⟨5,3,[.s (iA (maxD ((dA 1 x).take k):Nat))]⟩],inv:=fun k y=>y=k∧k≤256∧∀z∈(dA 1 x).take k,z.1≤16,x0:=0 } (ai ?_ (ai ?_ (ai ?_ (ai ?_ ?_)))))))))))
 ·exact (ai rfl rfl)
 ·exact (ai rfl (ai rfl (ai rfl rfl)))
 ·exact (ai (ai (ai (fun _=>rfl) rfl) rfl) (ai (ai (ai (fun _=>rfl) rfl) rfl) trivial))
 ·exact ⟨rfl,aef _,by simp⟩
 ·rintro k (y:Nat) vs ⟨hy,hk,hall⟩ hvs
  subst hy
  obtain ⟨d,z,hg,rfl⟩:=akt hvs
  have hs:(dA 1 x).take (y+1)=(dA 1 x).take y++[(d,z)]:=by rw[arP,hg];rfl
  have hyl:y<(dA 1 x).length:=(abZ.1 hg).1
  have hw:IntKind.i64.wrap ((y:Int)+1)=((y+1:Nat):Int):=aN (by omega)
  refine ah (p:=256<y+1) (by exact av (by rw[hw];omega)) (fun h1=>?_) (fun h1=>?_)
  ·refine ai (ai (fun _=>(by exact (ai trivial (ai trivial trivial)))) ?_) trivial
   show aC _ (mh x)
   rw[mh,aeh (.inl (by omega))]
   exact (ai rfl (ai rfl rfl))
  refine ah (p:=16<d) (av (by omega)) (fun h2=>?_) (fun h2=>?_)
  ·refine ai (ai (fun _=>(by exact (ai trivial (ai trivial trivial)))) ?_) trivial
   show aC _ (mh x)
   rw[mh,aeh (.inr ⟨_,aee hg,h2⟩)]
   exact (ai rfl (ai rfl rfl))
  refine ei (y+1) (ai rfl (ai (ai (ai rfl rfl) (ai (ai rfl rfl) ?_)) ?_))
  ·refine ai ?_ (ai ?_ trivial)
   ·exact (ai (ai (fun _=>rfl) (aN (by omega))) rfl)
   ·refine ai (ai nof ?_) rfl
    show (if (d:Int)>_ then (d:Int) else _)=((maxD ((dA 1 x).take (y+1)):Nat):Int)
    rw[hs,aj3]
    show (if (d:Int)>((maxD ((dA 1 x).take y):Nat):Int) then (d:Int) else _)=((max _ d:Nat):Int)
    split<;>omega
  ·refine ⟨rfl,by omega,fun w hw=>?_⟩
   rw[hs] at hw
   rcases ahq.1 hw with hw | hw
   ·exact hall w hw
   ·simp at hw;subst hw;show d≤16;omega
 ·rintro (y:Nat) ⟨hy,hk,hall⟩
  have hl:(preS.xs x).length=(dA 1 x).length:=akn _
  rw[hl] at hy hk hall
  subst hy
  rw[afz] at hall
  refine ei (.one 0 (.alt 1 (.one 2 (.one 3 (.one 4 .done))) (.alt 2 (.one 1 (.one 3 (.one 4 .done))) .stop))) (ai (by kernel_rfl) ?_)
  refine ai ?_ (ai ?_ trivial)
  ·refine ai (ai (fun _=>(by exact (ai trivial (ai trivial trivial)))) ?_) trivial
   show aC _ (mh x)
   rw[mh,aez hk hall]
   refine (ai rfl (ai ?_ rfl))
   ·show ((maxD ((dA 1 x).take (dA 1 x).length):Nat):Int)=_
    rw[afz]
  ·refine ai (ai (fun _=>(by exact (ai trivial (ai trivial trivial)))) ?_) trivial
   show aC _ (mh x)
   rw[mh,aez hk hall]
   refine (ai rfl (ai ?_ rfl))
   ·show ((maxD ((dA 1 x).take (dA 1 x).length):Nat):Int)=_
    rw[afz]
def r9 (o:Int):Nat:=if o=2 then 1 else if o=3∨o=4 then 2 else 0
def aiI (o:Int):Nat:=if o=2 then 1 else if o=3∨o=4 then 256 else 0
def abC (o n:Int):Int:=if o=0 then 1 else if o=1 then n-1 else 0
def aY (x:Ex) (n:Int):Int:=
 if x.op<0∨5≤x.op then 1 else if x.args.length<r9 x.op∨aiI x.op<x.args.length then 3 else if x.idx<0∨abC x.op n<x.idx then 2 else 0
def evC (v:Bool):PV:=.fn 228 [.pt [bP v] 0]
def shC:List PV:=[iP 0,iP 0,.val .nilFunc,iP 0,iP 0,.val .nilFunc,iP 1,iP 1,evC false,iP 2,iP 256,evC true,iP 2,iP 256,.fn 221 []]
def apn:Spec:=bM (fun v:Bool=>[bA v]) (fun _=>True) (fun v=>evC v)
theorem afg:aM Tryz.prog 220 apn:=by
 refine aW (Tb:=tab) mixed aB Tryz.func220 rfl rfl ?_
 rintro (v:Bool) hpre
 refine ai (ai rfl (ai rfl rfl)) ?_
 refine ai (ai (fun _=>trivial) ?_) trivial
 exact (ai rfl rfl)
def anE:Spec:=bM (fun _:Unit=>[]) (fun _=>True) (fun _=>.agg shC)
theorem jg:aM Tryz.prog 205 anE:=by
 refine aW (Tb:=tab) mixed aB Tryz.func205 rfl rfl ?_
 rintro ⟨⟩ hpre
 refine ai (ai rfl (ai rfl rfl)) ?_
 refine ei _ (ai (afg) (ei (false) (ei [] (ai (a4 (ai (fun _=>Or.inl rfl) (ai nof (Or.inl rfl)))) (ai (by exact rfl) (ai trivial (ai (trivial) ?_)))))))
 refine ei _ (ai (afg) (ei (true) (ei [] (ai (a4 (ai (fun _=>Or.inl rfl) (ai nof (Or.inl rfl)))) (ai (by exact rfl) (ai trivial (ai (trivial) ?_)))))))
 refine ai (ai (fun _=>(by exact (ai trivial (ai trivial (ai trivial (ai trivial (ai trivial (ai trivial (ai trivial (ai trivial (ai trivial (ai trivial (ai trivial (ai trivial (ai trivial (ai trivial trivial)))))))))))))))) ?_) trivial
 exact (ai rfl (ai rfl (ai rfl (ai rfl (ai rfl (ai rfl (ai rfl (ai rfl (ai (ai rfl rfl) (ai rfl (ai rfl (ai (ai rfl rfl) (ai rfl (ai rfl (ai rfl rfl)))))))))))))))
def aqb:Spec:=bM (fun y:Ex×Int=>[tL y.1,iA y.2]) (fun y=>y.1.args.length≤1000000∧0≤y.2∧y.2≤256) (fun y=>iP (aY y.1 y.2))
theorem am6:aM Tryz.prog 172 aqb:=by
 refine aW (Tb:=tab) mixed aB Tryz.func172 rfl rfl ?_
 rintro ⟨⟨o,i,l⟩,n⟩ hpre
 refine ai (ai rfl (ai rfl rfl)) ?_
 obtain ⟨hl,hn1,hn2⟩:=hpre
 have hl:l.length≤1000000:=hl
 have hn1:0≤n:=hn1
 have hn2:n≤256:=hn2
 refine ah (p:=o<0) (av Iff.rfl) (fun h1=>?_) (fun h1=>?_)
 ·refine ai (ai (fun _=>trivial) ?_) trivial
  show aC _ (iP (aY (.node o i l) n))
  rw[aY,if_pos (.inl h1)]
  exact rfl
 refine ah (p:=5≤o) (fJ Iff.rfl) (fun h2=>?_) (fun h2=>?_)
 ·refine ai (ai (fun _=>trivial) ?_) trivial
  show aC _ (iP (aY (.node o i l) n))
  rw[aY,if_pos (.inr h2)]
  exact rfl
 have hA:aY (.node o i l) n=if l.length<r9 o∨aiI o<l.length then 3 else if i<0∨abC o n<i then 2 else 0:=by
  unfold aY
  rw[if_neg (by show ¬(o<0∨5≤o);omega)]
 have ho:o=0∨o=1∨o=2∨o=3∨o=4:=by omega
 rcases ho with rfl | rfl | rfl | rfl | rfl
 ·refine ei (.one 1 (.one 2 (.alt 0 (.one 3 (.one 4 (.one 5 .done))) (.alt 4 (.one 0 (.one 3 (.one 5 .done))) .stop)))) (ai (by kernel_rfl) ?_)
  refine ai ?_ (ai ?_ trivial)
  ·refine ei _ (ai (jg) (ei (()) (ei [] (ai (a4 (ai (fun _=>Or.inl rfl) (ai nof (Or.inl rfl)))) (ai (by exact trivial) (ai trivial (ai (trivial) ?_)))))))
   refine ai (ai (by show (0:Int)≤0;decide) (by show (0:Int)<5;decide)) ?_
   have hA:aY (.node 0 i l) n=if l.length<0∨0<l.length then 3 else if i<0∨1<i then 2 else 0:=hA
   refine ah (p:=0<l.length) (av (by dsimp only;omega)) (fun h4=>?_) (fun h4=>?_)
   ·refine ai (ai (fun _=>trivial) ?_) trivial
    show aC _ (iP (aY (.node 0 i l) n))
    rw[hA,if_pos (.inr h4)]
    exact rfl
   rw[if_neg (fun h=>h.elim (akb _) h4)] at hA
   refine ah (p:=i<0) (av Iff.rfl) (fun h5=>?_) (fun h5=>?_)
   ·refine ai (ai (fun _=>trivial) ?_) trivial
    show aC _ (iP (aY (.node 0 i l) n))
    rw[hA,if_pos (.inl h5)]
    exact rfl
   refine ah (p:=1<i) (by first | exact av Iff.rfl | exact av (by rw[jS (n:=n-1) (by omega) (by omega)])) (fun h6=>?_) (fun h6=>?_)
   ·refine ai (ai (fun _=>trivial) ?_) trivial
    show aC _ (iP (aY (.node 0 i l) n))
    rw[hA,if_pos (.inr h6)]
    exact rfl
   ·refine ai (ai (fun _=>trivial) ?_) trivial
    show aC _ (iP (aY (.node 0 i l) n))
    rw[hA,if_neg (fun h=>h.elim h5 h6)]
    exact rfl
  ·refine ei _ (ai (jg) (ei (()) (ei [] (ai (a4 (ai (fun _=>Or.inl rfl) (ai nof (Or.inl rfl)))) (ai (by exact trivial) (ai trivial (ai (trivial) ?_)))))))
   refine ai (ai (by show (0:Int)≤0;decide) (by show (0:Int)<5;decide)) ?_
   have hA:aY (.node 0 i l) n=if l.length<0∨0<l.length then 3 else if i<0∨1<i then 2 else 0:=hA
   refine ah (p:=0<l.length) (av (by dsimp only;omega)) (fun h4=>?_) (fun h4=>?_)
   ·refine ai (ai (fun _=>trivial) ?_) trivial
    show aC _ (iP (aY (.node 0 i l) n))
    rw[hA,if_pos (.inr h4)]
    exact rfl
   rw[if_neg (fun h=>h.elim (akb _) h4)] at hA
   refine ah (p:=i<0) (av Iff.rfl) (fun h5=>?_) (fun h5=>?_)
   ·refine ai (ai (fun _=>trivial) ?_) trivial
    show aC _ (iP (aY (.node 0 i l) n))
    rw[hA,if_pos (.inl h5)]
    exact rfl
   refine ah (p:=1<i) (by first | exact av Iff.rfl | exact av (by rw[jS (n:=n-1) (by omega) (by omega)])) (fun h6=>?_) (fun h6=>?_)
   ·refine ai (ai (fun _=>trivial) ?_) trivial
    show aC _ (iP (aY (.node 0 i l) n))
    rw[hA,if_pos (.inr h6)]
    exact rfl
   ·refine ai (ai (fun _=>trivial) ?_) trivial
    show aC _ (iP (aY (.node 0 i l) n))
    rw[hA,if_neg (fun h=>h.elim h5 h6)]
    exact rfl
 ·refine ei (.one 1 (.one 2 (.alt 0 (.one 3 (.one 4 (.one 5 .done))) (.alt 4 (.one 0 (.one 3 (.one 5 .done))) .stop)))) (ai (by kernel_rfl) ?_)
  refine ai ?_ (ai ?_ trivial)
  ·refine ei _ (ai (jg) (ei (()) (ei [] (ai (a4 (ai (fun _=>Or.inl rfl) (ai nof (Or.inl rfl)))) (ai (by exact trivial) (ai trivial (ai (trivial) ?_)))))))
   refine ai (ai (by show (0:Int)≤1;decide) (by show (1:Int)<5;decide)) ?_
   have hA:aY (.node 1 i l) n=if l.length<0∨0<l.length then 3 else if i<0∨(n-1)<i then 2 else 0:=hA
   refine ah (p:=0<l.length) (av (by dsimp only;omega)) (fun h4=>?_) (fun h4=>?_)
   ·refine ai (ai (fun _=>trivial) ?_) trivial
    show aC _ (iP (aY (.node 1 i l) n))
    rw[hA,if_pos (.inr h4)]
    exact rfl
   rw[if_neg (fun h=>h.elim (akb _) h4)] at hA
   refine ah (p:=i<0) (av Iff.rfl) (fun h5=>?_) (fun h5=>?_)
   ·refine ai (ai (fun _=>trivial) ?_) trivial
    show aC _ (iP (aY (.node 1 i l) n))
    rw[hA,if_pos (.inl h5)]
    exact rfl
   refine ah (p:=(n-1)<i) (by first | exact av Iff.rfl | exact av (by rw[jS (n:=n-1) (by omega) (by omega)])) (fun h6=>?_) (fun h6=>?_)
   ·refine ai (ai (fun _=>trivial) ?_) trivial
    show aC _ (iP (aY (.node 1 i l) n))
    rw[hA,if_pos (.inr h6)]
    exact rfl
   ·refine ai (ai (fun _=>trivial) ?_) trivial
    show aC _ (iP (aY (.node 1 i l) n))
    rw[hA,if_neg (fun h=>h.elim h5 h6)]
    exact rfl
  ·refine ei _ (ai (jg) (ei (()) (ei [] (ai (a4 (ai (fun _=>Or.inl rfl) (ai nof (Or.inl rfl)))) (ai (by exact trivial) (ai trivial (ai (trivial) ?_)))))))
   refine ai (ai (by show (0:Int)≤1;decide) (by show (1:Int)<5;decide)) ?_
   have hA:aY (.node 1 i l) n=if l.length<0∨0<l.length then 3 else if i<0∨(n-1)<i then 2 else 0:=hA
   refine ah (p:=0<l.length) (av (by dsimp only;omega)) (fun h4=>?_) (fun h4=>?_)
   ·refine ai (ai (fun _=>trivial) ?_) trivial
    show aC _ (iP (aY (.node 1 i l) n))
    rw[hA,if_pos (.inr h4)]
    exact rfl
   rw[if_neg (fun h=>h.elim (akb _) h4)] at hA
   refine ah (p:=i<0) (av Iff.rfl) (fun h5=>?_) (fun h5=>?_)
   ·refine ai (ai (fun _=>trivial) ?_) trivial
    show aC _ (iP (aY (.node 1 i l) n))
    rw[hA,if_pos (.inl h5)]
    exact rfl
   refine ah (p:=(n-1)<i) (by first | exact av Iff.rfl | exact av (by rw[jS (n:=n-1) (by omega) (by omega)])) (fun h6=>?_) (fun h6=>?_)
   ·refine ai (ai (fun _=>trivial) ?_) trivial
    show aC _ (iP (aY (.node 1 i l) n))
    rw[hA,if_pos (.inr h6)]
    exact rfl
   ·refine ai (ai (fun _=>trivial) ?_) trivial
    show aC _ (iP (aY (.node 1 i l) n))
    rw[hA,if_neg (fun h=>h.elim h5 h6)]
    exact rfl
 ·refine ei (.one 1 (.one 2 (.alt 0 (.one 3 (.one 4 (.one 5 .done))) (.alt 4 (.one 0 (.one 3 (.one 5 .done))) .stop)))) (ai (by kernel_rfl) ?_)
  refine ai ?_ (ai ?_ trivial)
  ·refine ei _ (ai (jg) (ei (()) (ei [] (ai (a4 (ai (fun _=>Or.inl rfl) (ai nof (Or.inl rfl)))) (ai (by exact trivial) (ai trivial (ai (trivial) ?_)))))))
   refine ai (ai (by show (0:Int)≤2;decide) (by show (2:Int)<5;decide)) ?_
   have hA:aY (.node 2 i l) n=if l.length<1∨1<l.length then 3 else if i<0∨0<i then 2 else 0:=hA
   refine ah (p:=l.length<1) (av (by dsimp only;omega)) (fun h3=>?_) (fun h3=>?_)
   ·refine ai (ai (fun _=>trivial) ?_) trivial
    show aC _ (iP (aY (.node 2 i l) n))
    rw[hA,if_pos (.inl h3)]
    exact rfl
   refine ah (p:=1<l.length) (av (by dsimp only;omega)) (fun h4=>?_) (fun h4=>?_)
   ·refine ai (ai (fun _=>trivial) ?_) trivial
    show aC _ (iP (aY (.node 2 i l) n))
    rw[hA,if_pos (.inr h4)]
    exact rfl
   rw[if_neg (fun h=>h.elim h3 h4)] at hA
   refine ah (p:=i<0) (av Iff.rfl) (fun h5=>?_) (fun h5=>?_)
   ·refine ai (ai (fun _=>trivial) ?_) trivial
    show aC _ (iP (aY (.node 2 i l) n))
    rw[hA,if_pos (.inl h5)]
    exact rfl
   skip
   refine ah (p:=0<i) (av Iff.rfl) (fun h6=>?_) (fun h6=>?_)
   ·refine ai (ai (fun _=>trivial) ?_) trivial
    show aC _ (iP (aY (.node 2 i l) n))
    rw[hA,if_pos (.inr h6)]
    exact rfl
   ·refine ai (ai (fun _=>trivial) ?_) trivial
    show aC _ (iP (aY (.node 2 i l) n))
    rw[hA,if_neg (fun h=>h.elim h5 h6)]
    exact rfl
  ·refine ei _ (ai (jg) (ei (()) (ei [] (ai (a4 (ai (fun _=>Or.inl rfl) (ai nof (Or.inl rfl)))) (ai (by exact trivial) (ai trivial (ai (trivial) ?_)))))))
   refine ai (ai (by show (0:Int)≤2;decide) (by show (2:Int)<5;decide)) ?_
   have hA:aY (.node 2 i l) n=if l.length<1∨1<l.length then 3 else if i<0∨0<i then 2 else 0:=hA
   refine ah (p:=l.length<1) (av (by dsimp only;omega)) (fun h3=>?_) (fun h3=>?_)
   ·refine ai (ai (fun _=>trivial) ?_) trivial
    show aC _ (iP (aY (.node 2 i l) n))
    rw[hA,if_pos (.inl h3)]
    exact rfl
   refine ah (p:=1<l.length) (av (by dsimp only;omega)) (fun h4=>?_) (fun h4=>?_)
   ·refine ai (ai (fun _=>trivial) ?_) trivial
    show aC _ (iP (aY (.node 2 i l) n))
    rw[hA,if_pos (.inr h4)]
    exact rfl
   rw[if_neg (fun h=>h.elim h3 h4)] at hA
   refine ah (p:=i<0) (av Iff.rfl) (fun h5=>?_) (fun h5=>?_)
   ·refine ai (ai (fun _=>trivial) ?_) trivial
    show aC _ (iP (aY (.node 2 i l) n))
    rw[hA,if_pos (.inl h5)]
    exact rfl
   skip
   refine ah (p:=0<i) (av Iff.rfl) (fun h6=>?_) (fun h6=>?_)
   ·refine ai (ai (fun _=>trivial) ?_) trivial
    show aC _ (iP (aY (.node 2 i l) n))
    rw[hA,if_pos (.inr h6)]
    exact rfl
   ·refine ai (ai (fun _=>trivial) ?_) trivial
    show aC _ (iP (aY (.node 2 i l) n))
    rw[hA,if_neg (fun h=>h.elim h5 h6)]
    exact rfl
 ·refine ei (.one 1 (.one 2 (.alt 0 (.one 3 (.one 4 (.one 5 .done))) (.alt 4 (.one 0 (.one 3 (.one 5 .done))) .stop)))) (ai (by kernel_rfl) ?_)
  refine ai ?_ (ai ?_ trivial)
  ·refine ei _ (ai (jg) (ei (()) (ei [] (ai (a4 (ai (fun _=>Or.inl rfl) (ai nof (Or.inl rfl)))) (ai (by exact trivial) (ai trivial (ai (trivial) ?_)))))))
   refine ai (ai (by show (0:Int)≤3;decide) (by show (3:Int)<5;decide)) ?_
   have hA:aY (.node 3 i l) n=if l.length<2∨256<l.length then 3 else if i<0∨0<i then 2 else 0:=hA
   refine ah (p:=l.length<2) (av (by dsimp only;omega)) (fun h3=>?_) (fun h3=>?_)
   ·refine ai (ai (fun _=>trivial) ?_) trivial
    show aC _ (iP (aY (.node 3 i l) n))
    rw[hA,if_pos (.inl h3)]
    exact rfl
   refine ah (p:=256<l.length) (av (by dsimp only;omega)) (fun h4=>?_) (fun h4=>?_)
   ·refine ai (ai (fun _=>trivial) ?_) trivial
    show aC _ (iP (aY (.node 3 i l) n))
    rw[hA,if_pos (.inr h4)]
    exact rfl
   rw[if_neg (fun h=>h.elim h3 h4)] at hA
   refine ah (p:=i<0) (av Iff.rfl) (fun h5=>?_) (fun h5=>?_)
   ·refine ai (ai (fun _=>trivial) ?_) trivial
    show aC _ (iP (aY (.node 3 i l) n))
    rw[hA,if_pos (.inl h5)]
    exact rfl
   skip
   refine ah (p:=0<i) (av Iff.rfl) (fun h6=>?_) (fun h6=>?_)
   ·refine ai (ai (fun _=>trivial) ?_) trivial
    show aC _ (iP (aY (.node 3 i l) n))
    rw[hA,if_pos (.inr h6)]
    exact rfl
   ·refine ai (ai (fun _=>trivial) ?_) trivial
    show aC _ (iP (aY (.node 3 i l) n))
    rw[hA,if_neg (fun h=>h.elim h5 h6)]
    exact rfl
  ·refine ei _ (ai (jg) (ei (()) (ei [] (ai (a4 (ai (fun _=>Or.inl rfl) (ai nof (Or.inl rfl)))) (ai (by exact trivial) (ai trivial (ai (trivial) ?_)))))))
   refine ai (ai (by show (0:Int)≤3;decide) (by show (3:Int)<5;decide)) ?_
   have hA:aY (.node 3 i l) n=if l.length<2∨256<l.length then 3 else if i<0∨0<i then 2 else 0:=hA
   refine ah (p:=l.length<2) (av (by dsimp only;omega)) (fun h3=>?_) (fun h3=>?_)
   ·refine ai (ai (fun _=>trivial) ?_) trivial
    show aC _ (iP (aY (.node 3 i l) n))
    rw[hA,if_pos (.inl h3)]
    exact rfl
   refine ah (p:=256<l.length) (av (by dsimp only;omega)) (fun h4=>?_) (fun h4=>?_)
   ·refine ai (ai (fun _=>trivial) ?_) trivial
    show aC _ (iP (aY (.node 3 i l) n))
    rw[hA,if_pos (.inr h4)]
    exact rfl
   rw[if_neg (fun h=>h.elim h3 h4)] at hA
   refine ah (p:=i<0) (av Iff.rfl) (fun h5=>?_) (fun h5=>?_)
   ·refine ai (ai (fun _=>trivial) ?_) trivial
    show aC _ (iP (aY (.node 3 i l) n))
    rw[hA,if_pos (.inl h5)]
    exact rfl
   skip
   refine ah (p:=0<i) (av Iff.rfl) (fun h6=>?_) (fun h6=>?_)
   ·refine ai (ai (fun _=>trivial) ?_) trivial
    show aC _ (iP (aY (.node 3 i l) n))
    rw[hA,if_pos (.inr h6)]
    exact rfl
   ·refine ai (ai (fun _=>trivial) ?_) trivial
    show aC _ (iP (aY (.node 3 i l) n))
    rw[hA,if_neg (fun h=>h.elim h5 h6)]
    exact rfl
 ·refine ei (.one 1 (.one 2 (.alt 0 (.one 3 (.one 4 (.one 5 .done))) (.alt 4 (.one 0 (.one 3 (.one 5 .done))) .stop)))) (ai (by kernel_rfl) ?_)
  refine ai ?_ (ai ?_ trivial)
  ·refine ei _ (ai (jg) (ei (()) (ei [] (ai (a4 (ai (fun _=>Or.inl rfl) (ai nof (Or.inl rfl)))) (ai (by exact trivial) (ai trivial (ai (trivial) ?_)))))))
   refine ai (ai (by show (0:Int)≤4;decide) (by show (4:Int)<5;decide)) ?_
   have hA:aY (.node 4 i l) n=if l.length<2∨256<l.length then 3 else if i<0∨0<i then 2 else 0:=hA
   refine ah (p:=l.length<2) (av (by dsimp only;omega)) (fun h3=>?_) (fun h3=>?_)
   ·refine ai (ai (fun _=>trivial) ?_) trivial
    show aC _ (iP (aY (.node 4 i l) n))
    rw[hA,if_pos (.inl h3)]
    exact rfl
   refine ah (p:=256<l.length) (av (by dsimp only;omega)) (fun h4=>?_) (fun h4=>?_)
   ·refine ai (ai (fun _=>trivial) ?_) trivial
    show aC _ (iP (aY (.node 4 i l) n))
    rw[hA,if_pos (.inr h4)]
    exact rfl
   rw[if_neg (fun h=>h.elim h3 h4)] at hA
   refine ah (p:=i<0) (av Iff.rfl) (fun h5=>?_) (fun h5=>?_)
   ·refine ai (ai (fun _=>trivial) ?_) trivial
    show aC _ (iP (aY (.node 4 i l) n))
    rw[hA,if_pos (.inl h5)]
    exact rfl
   skip
   refine ah (p:=0<i) (av Iff.rfl) (fun h6=>?_) (fun h6=>?_)
   ·refine ai (ai (fun _=>trivial) ?_) trivial
    show aC _ (iP (aY (.node 4 i l) n))
    rw[hA,if_pos (.inr h6)]
    exact rfl
   ·refine ai (ai (fun _=>trivial) ?_) trivial
    show aC _ (iP (aY (.node 4 i l) n))
    rw[hA,if_neg (fun h=>h.elim h5 h6)]
    exact rfl
  ·refine ei _ (ai (jg) (ei (()) (ei [] (ai (a4 (ai (fun _=>Or.inl rfl) (ai nof (Or.inl rfl)))) (ai (by exact trivial) (ai trivial (ai (trivial) ?_)))))))
   refine ai (ai (by show (0:Int)≤4;decide) (by show (4:Int)<5;decide)) ?_
   have hA:aY (.node 4 i l) n=if l.length<2∨256<l.length then 3 else if i<0∨0<i then 2 else 0:=hA
   refine ah (p:=l.length<2) (av (by dsimp only;omega)) (fun h3=>?_) (fun h3=>?_)
   ·refine ai (ai (fun _=>trivial) ?_) trivial
    show aC _ (iP (aY (.node 4 i l) n))
    rw[hA,if_pos (.inl h3)]
    exact rfl
   refine ah (p:=256<l.length) (av (by dsimp only;omega)) (fun h4=>?_) (fun h4=>?_)
   ·refine ai (ai (fun _=>trivial) ?_) trivial
    show aC _ (iP (aY (.node 4 i l) n))
    rw[hA,if_pos (.inr h4)]
    exact rfl
   rw[if_neg (fun h=>h.elim h3 h4)] at hA
   refine ah (p:=i<0) (av Iff.rfl) (fun h5=>?_) (fun h5=>?_)
   ·refine ai (ai (fun _=>trivial) ?_) trivial
    show aC _ (iP (aY (.node 4 i l) n))
    rw[hA,if_pos (.inl h5)]
    exact rfl
   skip
   refine ah (p:=0<i) (av Iff.rfl) (fun h6=>?_) (fun h6=>?_)
   ·refine ai (ai (fun _=>trivial) ?_) trivial
    show aC _ (iP (aY (.node 4 i l) n))
    rw[hA,if_pos (.inr h6)]
    exact rfl
   ·refine ai (ai (fun _=>trivial) ?_) trivial
    show aC _ (iP (aY (.node 4 i l) n))
    rw[hA,if_neg (fun h=>h.elim h5 h6)]
    exact rfl
def qF (l:List (Nat×Ex)) (n:Int):Int:=((l.map fun y=>aY y.2 n).find? (fun e=>e != 0)).getD 0
def gQ (x:Ex) (n:Int):Int:=if n<0∨256<n then 2 else if x.size≤256∧x.deep≤16 then qF (dA 1 x) n else 5
theorem ad5 {α:Type} {p:α→Bool}:∀{l:List α} {k:Nat},(∀j,j<k→∀y,l[j]?=some y→p y=false)→∀{y:α},l[k]?=some y→p y=true→l.find? p=some y
 | [],k,_,y,h,_=>by simp at h
 | z :: l,0,_,y,h,hp=>by simp at h;subst h;simp[hp]
 | z :: l,k+1,hs,y,h,hp=>by
  have h0:=hs 0 (by omega) z rfl
  rw[List.find?_cons,h0]
  exact ad5 (k:=k) (fun j hj y hy=>hs (j+1) (by omega) y (by simpa using hy)) (by simpa using h) hp
theorem akd {l:List (Nat×Ex)} {n:Int} {k d:Nat} {x:Ex} (h0:∀z∈l.take k,aY z.2 n=0) (h:l[k]?=some (d,x)) (hn:aY x n≠0):qF l n=aY x n:=by
 unfold qF
 rw[ad5 (k:=k) (y:=aY x n)]
 ·rfl
 ·intro j hj y hy
  rw[ahO] at hy
  cases hc:l[j]? with
  | none=>rw[hc] at hy;simp at hy
  | some z=>
   rw[hc] at hy;simp at hy;subst hy
   have:z∈l.take k:=by
    have:(l.take k)[j]?=some z:=by rw[ah7];simp[hj,hc]
    exact aee this
   simp[h0 z this]
 ·rw[ahO,h];rfl
 ·simpa using hn
theorem aaX {l:List (Nat×Ex)} {n:Int} (h0:∀z∈l,aY z.2 n=0):qF l n=0:=by
 unfold qF
 rw[arC.2]
 ·rfl
 ·intro y hy
  obtain ⟨z,hz,rfl⟩:=aqs.1 hy
  simp[h0 z hz]
theorem aiv {l:List (Nat×Ex)} {n:Int}:qF l n=0↔∀z∈l,aY z.2 n=0:=by
 constructor
 ·intro h z hz
  refine Classical.byContradiction fun hne=>?_
  unfold qF at h
  cases hf:(l.map fun y=>aY y.2 n).find? (fun e=>e != 0) with
  | none=>
   have:=arC.1 hf (aY z.2 n) (List.mem_map_of_mem hz)
   simp at this;exact hne this
  | some e=>
   rw[hf] at h
   have:=List.find?_some hf
   simp at h;simp[h] at this
 ·exact aaX
mutual
theorem ae9:∀(x:Ex) (d:Nat) (z:Nat×Ex),z∈dA d x→z.2.size≤x.size
 | .node o i l,d,z,h=>by
  rw[pQ] at h
  rcases ahF.1 h with rfl | h
  ·exact afi _
  ·unfold iQ at h
   rw[Ex.size]
   split at h
   ·have:=ad4 l (d+1) z h;omega
   ·simp at h
theorem ad4:∀(l:List Ex) (d:Nat) (z:Nat×Ex),z∈fF d l→z.2.size≤sizes l
 | [],d,z,h=>by rw[fF] at h;simp at h
 | x :: l,d,z,h=>by
  rw[fF] at h
  rw[sizes]
  rcases ahq.1 h with h | h
  ·have:=ae9 x d z h;omega
  ·have:=ad4 l d z h;omega
end
theorem wm (x:Ex):x.args.length<x.size:=by rw[x.size_eq];have:=yU x.args;omega
def aox:Spec:=bM (fun y:Ex×Int=>[tL y.1,iA y.2]) (fun y=>y.1.size≤1000000) (fun y=>iP (gQ y.1 y.2))
theorem af6:aM Tryz.prog 140 aox:=by
 refine aW (Tb:=tab) mixed aB Tryz.func140 rfl rfl ?_
 rintro ⟨x,n⟩ hpre
 refine ai (ai rfl (ai rfl rfl)) ?_
 have hpre:x.size≤1000000:=hpre
 refine ah (p:=n<0) (av (by omega)) (fun h1=>?_) (fun h1=>?_)
 ·refine ai (ai (fun _=>trivial) ?_) trivial
  show aC _ (iP (gQ x n))
  rw[gQ,if_pos (.inl h1)]
  exact rfl
 refine ah (p:=256<n) (av (by omega)) (fun h2=>?_) (fun h2=>?_)
 ·refine ai (ai (fun _=>trivial) ?_) trivial
  show aC _ (iP (gQ x n))
  rw[gQ,if_pos (.inr h2)]
  exact rfl
 have hA:gQ x n=if x.size≤256∧x.deep≤16 then qF (dA 1 x) n else 5:=by
  unfold gQ;rw[if_neg (fun h=>h.elim h1 h2)]
 by_cases hm:x.size≤256∧x.deep≤16
 ·have e1:mh x=.tup [iP x.size,iP x.deep,bP true]:=by unfold mh wN;rw[if_pos hm]
  rw[if_pos hm] at hA
  refine ei _ (ai ((y5 ahv x hpre e1)) (ei (()) (ei [] (ai (a4 (ai (fun _=>Or.inl rfl) (ai nof (Or.inl rfl)))) (ai (by exact (ai rfl (ai rfl (ai rfl (fun _ _=>rfl))))) (ai trivial (ai (trivial) ?_)))))))
  refine ei _ (ai (akf) (ei (x) (ei [] (ai (a4 (ai (fun _=>Or.inl rfl) (ai nof (Or.inl rfl)))) (ai (by exact (ai rfl (ai rfl (ai rfl (fun _ _=>rfl))))) (ai trivial (ai (trivial) ?_)))))))
  refine ai (ai rfl rfl) (ei preS (ai agD (ei x (ai ?_ (ai hpre (ai akM (ei { X:=Nat,uo:=fun k=>[],inv:=fun k y=>y=k∧∀z∈(dA 1 x).take k,aY z.2 n=0,x0:=0 } (ai ?_ (ai ?_ (ai ?_ (ai ?_ ?_)))))))))))
  ·exact (ai rfl rfl)
  ·exact (ai rfl (ai rfl (ai rfl rfl)))
  ·exact trivial
  ·exact ⟨rfl,by simp⟩
  ·rintro k (y:Nat) vs ⟨hy,hall⟩ hvs
   subst hy
   obtain ⟨d,z,hg,rfl⟩:=akt hvs
   have hz:=aee hg
   have hzs:z.size≤x.size:=ae9 x 1 _ hz
   have hza:=wm z
   refine ei _ (ai (am6) (ei ((z,n)) (ei [] (ai (a4 (ai (fun _=>Or.inl rfl) (ai nof (Or.inl rfl)))) (ai (by exact (ai (ai rfl (ai rfl (ai rfl (fun _ _=>rfl)))) rfl)) (ai trivial (ai (⟨by show z.args.length≤1000000;omega,by show 0≤n;omega,by show n≤256;omega⟩) ?_)))))))
   refine aF (p:=aY z n=0) (bZ (by dsimp only;omega)) (fun h3=>?_) (fun h3=>?_)
   ·refine ai (ai (fun _=>trivial) ?_) trivial
    show aC _ (iP (gQ x n))
    rw[hA,akd hall hg h3]
    exact rfl
   refine ei (y+1) (ai rfl (ai (ai (ai rfl rfl) (ai (ai rfl rfl) ?_)) ⟨rfl,?_⟩))
   ·exact trivial
   ·intro w hw
    have hs:(dA 1 x).take (y+1)=(dA 1 x).take y++[(d,z)]:=by rw[arP,hg];rfl
    rw[hs] at hw
    rcases ahq.1 hw with hw | hw
    ·exact hall w hw
    ·simp at hw;subst hw;exact h3
  ·rintro (y:Nat) ⟨hy,hall⟩
   have hl:(preS.xs x).length=(dA 1 x).length:=akn _
   rw[hl] at hy hall
   subst hy
   rw[afz] at hall
   refine ai (ai (fun _=>trivial) ?_) trivial
   show aC _ (iP (gQ x n))
   rw[hA,aaX hall]
   exact rfl
 ·have e1:mh x=.tup [iP 0,iP 0,bP false]:=by unfold mh wN;rw[if_neg hm]
  rw[if_neg hm] at hA
  refine ei _ (ai ((y5 ahv x hpre e1)) (ei (()) (ei [] (ai (a4 (ai (fun _=>Or.inl rfl) (ai nof (Or.inl rfl)))) (ai (by exact (ai rfl (ai rfl (ai rfl (fun _ _=>rfl))))) (ai trivial (ai (trivial) ?_)))))))
  refine ai (ai (fun _=>trivial) ?_) trivial
  show aC _ (iP (gQ x n))
  rw[hA]
  exact rfl
mutual
def lK (n:Int):Ex→Prop
 | .node o i l=>aY (.node o i l) n=0∧ql n l
def ql (n:Int):List Ex→Prop
 | []=>True
 | x :: l=>lK n x∧ql n l
end
theorem aco (n:Int):∀l:List Ex,ql n l↔∀x∈l,lK n x
 | []=>by rw[ql];simp
 | x :: l=>by rw[ql,aco n l];simp
theorem wF (n:Int) (x:Ex):lK n x↔aY x n=0∧∀y∈x.args,lK n y:=by
 cases x;rw[lK,aco]
mutual
theorem afw (n:Int):∀(x:Ex) (d:Nat),x.deep+d≤17→((∀z∈dA d x,aY z.2 n=0)↔lK n x)
 | .node o i l,d,h=>by
  rw[Ex.deep] at h
  rw[pQ,lK]
  unfold iQ
  rw[if_pos (by omega),←aeu n l (d+1) (by omega)]
  constructor
  ·exact fun h=>⟨h _ amO,fun z hz=>h z (aou _ hz)⟩
  ·rintro ⟨h1,h2⟩ z hz
   rcases ahF.1 hz with rfl | hz
   ·exact h1
   ·exact h2 z hz
theorem aeu (n:Int):∀(l:List Ex) (d:Nat),fU l+d≤17→((∀z∈fF d l,aY z.2 n=0)↔ql n l)
 | [],d,h=>by rw[fF,ql];simp
 | x :: l,d,h=>by
  rw[fU] at h
  rw[fF,ql,←afw n x d (by omega),←aeu n l d (by omega)]
  constructor
  ·exact fun h=>⟨fun z hz=>h z (List.mem_append_left _ hz),fun z hz=>h z (arV _ hz)⟩
  ·rintro ⟨h1,h2⟩ z hz
   rcases ahq.1 hz with hz | hz
   ·exact h1 z hz
   ·exact h2 z hz
end
theorem aa5 {x:Ex} {n:Int}:gQ x n=0↔(0≤n∧n≤256)∧(x.size≤256∧x.deep≤16)∧lK n x:=by
 unfold gQ
 by_cases h1:n<0∨256<n
 ·rw[if_pos h1]
  constructor
  ·intro h;exact absurd h (by decide)
  ·rintro ⟨h,_⟩;omega
 ·rw[if_neg h1]
  by_cases h2:x.size≤256∧x.deep≤16
  ·rw[if_pos h2,aiv,afw n x 1 (by omega)]
   exact ⟨fun h=>⟨by omega,h2,h⟩,fun h=>h.2.2⟩
  ·rw[if_neg h2]
   constructor
   ·intro h;exact absurd h (by decide)
   ·rintro ⟨_,h,_⟩;exact absurd h h2
theorem rz {x:Ex} {n:Int} (h:aY x n=0):(0≤x.op∧x.op<5)∧(r9 x.op≤x.args.length∧x.args.length≤aiI x.op)∧(0≤x.idx∧x.idx≤abC x.op n):=by
 unfold aY at h
 split at h
 ·exact absurd h (by decide)
 ·split at h
  ·exact absurd h (by decide)
  ·split at h
   ·exact absurd h (by decide)
   ·omega
theorem rU:∀(a b:List Ex),sizes (a++b)=sizes a+sizes b
 | [],b=>by rw[sizes,List.nil_append];omega
 | x :: a,b=>by rw[List.cons_append,sizes,sizes,rU a b];omega
theorem vK {l:List Ex} {k:Nat} (h:k<l.length):sizes (l.take (k+1))=sizes (l.take k)+(l.getD k dz).size:=by
 rw[aX dz h,rU];show _+(_+sizes [])=_;rw[sizes];rfl
theorem ace (l:List Ex) (k:Nat):sizes (l.take k)≤sizes l:=by
 conv=>rhs;rw[←aqY k l,rU]
 omega
def afQ:Spec:=bM (fun a:Ex×Nat=>[tL a.1,iA a.2]) (fun a=>a.2≤1000000) (fun a=>iP (min a.1.size (a.2+1):Nat))
def ao2 (n:Nat):Spec:={ afQ with pre:=fun a=>afQ.pre a∧a.1.size≤n }
theorem ahM:∀n,aM Tryz.prog 121 (ao2 n)
 | 0=>by
  refine aW (Tb:=tab) mixed aB Tryz.func121 rfl rfl ?_
  rintro (a:Ex×Nat) hpre
  refine ai (ai rfl (ai rfl rfl)) ?_
  have:=size_pos a.1
  exact absurd hpre.2 (by show ¬a.1.size≤0;omega)
 | n+1=>by
  have ih:=ahM n
  refine aW (Tb:=tab) mixed aB Tryz.func121 rfl rfl ?_
  rintro (a:Ex×Nat) hpre
  refine ai (ai rfl (ai rfl rfl)) ?_
  obtain ⟨hm,hn⟩:=hpre
  have hm:a.2≤1000000:=hm
  have hn:a.1.size≤n+1:=hn
  have hsz:=a.1.size_eq
  refine ei (bI.inv { X:=Nat,up:=fun k=>[(6,.s (iA k)),(5,.s (iA (min (1+sizes (a.1.args.take k)) (a.2+1):Nat)))],uo:=fun _=>[],inv:=fun k=>k≤a.1.args.length∧k≤sizes (a.1.args.take k)∧k≤a.2,meas:=fun k=>a.2-k,x0:=0 }) ?_
  refine ai (ai (ai (by exact (a4 (ai rfl rfl))) (ai ?_ ?_)) ?_) (ai ?_ ?_)
  ·exact (ai (ai (ai (fun _=>rfl) (iE (by simp only[zz,reduceCtorEq];rfl))) rfl) (ai (ai (fun _=>rfl) (iE (by simp only[zz,reduceCtorEq];rfl))) rfl))
  ·exact trivial
  ·exact rfl
  ·exact ⟨aef _,aef _,aef _⟩
  rintro (k:Nat) ⟨hk1,hk2,hk3⟩
  refine ah (p:=k<a.1.args.length) (av (by omega)) (fun h1=>?_) (fun h1=>?_)
  ·refine ah (p:=1+sizes (a.1.args.take k)≤a.2) (by exact fJ (by show ((min (1+sizes (a.1.args.take k)) (a.2+1):Nat):Int)≤(a.2:Int)↔_;omega)) (fun h2=>?_) (fun h2=>?_)
   ·refine ai (ai (abJ _) (by show (k:Int)<(a.1.args.length:Int);omega)) ?_
    refine ai rfl ?_
    have e1:min (1+sizes (a.1.args.take k)) (a.2+1)=1+sizes (a.1.args.take k):=by omega
    have hw:IntKind.i64.wrap ((a.2:Int)-((min (1+sizes (a.1.args.take k)) (a.2+1):Nat):Int))=((a.2-(1+sizes (a.1.args.take k)):Nat):Int):=by
     rw[e1,jS (by omega) (by omega)];omega
    have hy:a.1.args.getD k dz∈a.1.args:=aee (aap h1)
    have hys:(a.1.args.getD k dz).size≤n:=by have:=kL hy;omega
    refine ei _ (ai (ih) (ei ((a.1.args.getD k dz,a.2-(1+sizes (a.1.args.take k)))) (ei [] (ai (a4 (ai (fun _=>Or.inl rfl) (ai nof (Or.inl rfl)))) (ai (by exact (ai (ai (iE (by simp only[zz,reduceCtorEq])) (ai (iE (by simp only[zz,reduceCtorEq])) (ai rfl (exE _)))) (iE (by simp only[zz,reduceCtorEq];omega)))) (ai trivial (ai (ai (by show a.2-(1+sizes (a.1.args.take k))≤1000000;omega) hys) ?_)))))))
    refine ei ((k+1)) (ai (ai rfl rfl) (ai (ai ?_ ?_) (ai ?_ ?_)))
    ·refine (ai rfl (ai (ai rfl rfl) (ai (ai rfl rfl) (ai (ai (ai (ai (fun _=>rfl) (aN (by omega))) rfl) (ai (ai (fun _=>rfl) ?_) rfl)) trivial))))
     show IntKind.i64.wrap (((min (1+sizes (a.1.args.take k)) (a.2+1):Nat):Int)+((min (a.1.args.getD k dz).size (a.2-(1+sizes (a.1.args.take k))+1):Nat):Int))=_
     rw[jS (by omega) (by omega),vK h1];omega
    ·exact rfl
    ·have:=size_pos (a.1.args.getD k dz)
     exact ⟨h1,by rw[vK h1];omega,by omega⟩
    ·show a.2-(k+1)<a.2-k;omega
   ·have:=ace a.1.args k
    refine ai (ai (fun _=>trivial) ?_) trivial
    show aC _ (iP (min a.1.size (a.2+1):Nat))
    rw[show min a.1.size (a.2+1)=min (1+sizes (a.1.args.take k)) (a.2+1) by omega]
    exact rfl
  ·obtain rfl:k=a.1.args.length:=by omega
   rw[afz] at hk2
   refine ai (ai (fun _=>trivial) ?_) trivial
   show aC _ (iP (min a.1.size (a.2+1):Nat))
   rw[show min a.1.size (a.2+1)=min (1+sizes (a.1.args.take a.1.args.length)) (a.2+1) by rw[afz];omega]
   exact rfl
theorem amh:aM Tryz.prog 121 afQ:=yT (fun a=>a.1.size) ahM
def aiH:Spec:=bM (fun a:Ex×Int=>[tL a.1,iA a.2]) (fun a=>a.2≤1000000∧a.1.size≤1000000) (fun a=>bP (decide ((a.1.deep:Int)≤a.2)))
def apP (n:Nat):Spec:={ aiH with pre:=fun a=>aiH.pre a∧a.1.size≤n }
theorem amj {l:List Ex} {m:Nat} (h:∀x∈l,x.deep≤m):fU l≤m:=by
 induction l with
 | nil=>rw[fU];omega
 | cons x l ih=>
  rw[fU]
  have:=h x (by simp)
  have:=ih fun y hy=>h y (by simp[hy])
  omega
theorem alS (x:Ex):decide ((x.deep:Int)≤1)=((x.args.length:Int)==0):=by
 have hde:=x.aaE
 cases hl:x.args with
 | nil=>rw[hl,fU] at hde;rw[hde];rfl
 | cons y l=>
  rw[hl,fU] at hde
  have:=afh y
  rw[decide_eq_false (by omega)]
  symm;rw[beq_eq_false_iff_ne];simp;omega
theorem ajE:∀n,aM Tryz.prog 122 (apP n)
 | 0=>by
  refine aW (Tb:=tab) mixed aB Tryz.func122 rfl rfl ?_
  rintro (a:Ex×Int) hpre
  refine ai (ai rfl (ai rfl rfl)) ?_
  have:=size_pos a.1
  exact absurd hpre.2 (by show ¬a.1.size≤0;omega)
 | n+1=>by
  have ih:=ajE n
  refine aW (Tb:=tab) mixed aB Tryz.func122 rfl rfl ?_
  rintro (a:Ex×Int) hpre
  refine ai (ai rfl (ai rfl rfl)) ?_
  obtain ⟨hm,hn⟩:=hpre
  have hm1:a.2≤1000000:=hm.1
  have hm2:a.1.size≤1000000:=hm.2
  have hn:a.1.size≤n+1:=hn
  have hsz:=a.1.size_eq
  have hde:=a.1.aaE
  refine ah (p:=a.2<1) (av (by omega)) (fun h1=>?_) (fun h1=>?_)
  ·refine ai (ai (fun _=>trivial) ?_) trivial
   show aC _ (bP (decide ((a.1.deep:Int)≤a.2)))
   rw[show decide ((a.1.deep:Int)≤a.2)=false from decide_eq_false (by omega)]
   exact rfl
  refine ah (p:=a.2=1) (gD (by omega)) (fun h2=>?_) (fun h2=>?_)
  ·refine ai (ai (fun _=>trivial) ?_) trivial
   show aC _ (bP (decide ((a.1.deep:Int)≤a.2)))
   rw[show decide ((a.1.deep:Int)≤a.2)=((a.1.args.length:Int)==0) by rw[h2];exact alS a.1]
   exact rfl
  have hal:=wm a.1
  refine ei (bI.inv { X:=Nat,up:=fun k=>[(5,.s (iA k))],uo:=fun k=>[],inv:=fun k=>k≤a.1.args.length∧(∀y∈a.1.args.take k,(y.deep:Int)≤a.2-1),meas:=fun k=>a.1.args.length-k,x0:=0 }) ?_
  refine ai (ai (ai (by exact (a4 (ai rfl rfl))) (ai (by exact (ai (ai (fun _=>rfl) (iE (by simp only[zz,reduceCtorEq];rfl))) rfl)) (by exact trivial))) rfl) (ai (ai (aef _) ?_) ?_)
  ·exact fun y hy=>absurd hy (by simp)
  intro (k:Nat) ⟨hk,hall⟩
  refine ah (p:=k<a.1.args.length) (av (by omega)) (fun h3=>?_) (fun h3=>?_)
  ·refine ai (ai (abJ _) (iN (n:=a.1.args.length) (by omega))) (ai rfl ?_)
   have hy:a.1.args.getD k dz∈a.1.args:=aee (aap h3)
   have hms:=kL hy
   have hys:(a.1.args.getD k dz).size≤n:=by omega
   have hw:IntKind.i64.wrap (a.2-1)=a.2-1:=jS (by omega) (by omega)
   refine ei _ (ai (ih) (ei ((a.1.args.getD k dz,a.2-1)) (ei [] (ai (a4 (ai (fun _=>Or.inl rfl) (ai nof (Or.inl rfl)))) (ai (by exact (ai (ai (iE (by simp only[zz,reduceCtorEq])) (ai (iE (by simp only[zz,reduceCtorEq])) (ai rfl (exE _)))) (iE (by simp only[zz,reduceCtorEq];omega)))) (ai trivial (ai (ai ⟨by show a.2-1≤1000000;omega,by show (a.1.args.getD k dz).size≤1000000;omega⟩ hys) ?_)))))))
   refine aF (p:=((a.1.args.getD k dz).deep:Int)≤a.2-1) (by exact Iff.trans (by show (!decide ((a.1.args.getD k dz).deep≤a.2-1))=true↔_;simp) Iff.rfl) (fun h4=>?_) (fun h4=>?_)
   ·have:=afx hy
    refine ai (ai (fun _=>trivial) ?_) trivial
    show aC _ (bP (decide ((a.1.deep:Int)≤a.2)))
    rw[show decide ((a.1.deep:Int)≤a.2)=false from decide_eq_false (by omega)]
    exact rfl
   refine ei (k+1) (ai (ai rfl rfl) (ai (ai (ai rfl (ai (ai rfl rfl) (ai (ai rfl rfl) (ai (ai (ai (fun _=>rfl) (aN (by omega))) rfl) trivial)))) rfl) (ai (ai (iL (by omega)) ?_) (iM (by omega)))))
   intro y hy
   rw[aX dz h3] at hy
   rcases ahq.1 hy with hy | hy
   ·exact hall y hy
   ·simp only[agL] at hy;subst hy;exact h4
  ·obtain rfl:k=a.1.args.length:=by omega
   rw[afz] at hall
   have:fU a.1.args≤(a.2-1).toNat:=amj fun y hy=>by have:=hall y hy;omega
   refine ai (ai (fun _=>trivial) ?_) trivial
   show aC _ (bP (decide ((a.1.deep:Int)≤a.2)))
   rw[show decide ((a.1.deep:Int)≤a.2)=true from decide_eq_true (by omega)]
   exact rfl
theorem anq:aM Tryz.prog 122 aiH:=yT (fun a=>a.1.size) ajE
def iF (x:Ex):Bool:=decide (x.size≤256)&&decide (x.deep≤16)
theorem vO {x:Ex}:iF x=true↔x.size≤256∧x.deep≤16:=by unfold iF;simp
def ao6:Spec:=bM (fun x:Ex=>[tL x]) (fun x=>True) (fun x=>bP (iF x))
theorem af0:aM Tryz.prog 133 ao6:=by
 refine aW (Tb:=tab) mixed aB Tryz.func133 rfl rfl ?_
 rintro (x:Ex) hpre
 refine ai (ai rfl (ai rfl rfl)) ?_
 refine ei _ (ai (amh) (ei ((x,256)) (ei [] (ai (a4 (ai (fun _=>Or.inl rfl) (ai nof (Or.inl rfl)))) (ai (by exact (ai (ai rfl (ai rfl (ai rfl (fun _ _=>rfl)))) (iE (by simp only[zz,reduceCtorEq];rfl)))) (ai trivial (ai ((by show 256≤1000000;omega)) ?_)))))))
 refine ah (p:=x.size≤256) (by exact fJ (by show ((min x.size (256+1):Nat):Int)≤256↔_;omega)) (fun h1=>?_) (fun h1=>?_)
 ·refine ei _ (ai (anq) (ei ((x,16)) (ei [] (ai (a4 (ai (fun _=>Or.inl rfl) (ai nof (Or.inl rfl)))) (ai (by exact (ai (ai rfl (ai rfl (ai rfl (fun _ _=>rfl)))) rfl)) (ai trivial (ai (⟨by show (16:Int)≤1000000;omega,by show x.size≤1000000;omega⟩) ?_)))))))
  refine ai (ai (fun _=>trivial) ?_) trivial
  show aC _ (bP (iF x))
  rw[show iF x=decide ((x.deep:Int)≤16) by unfold iF;rw[decide_eq_true h1,aql];exact decide_eq_decide.2 (by omega)]
  exact rfl
 ·refine ai (ai (fun _=>trivial) ?_) trivial
  show aC _ (bP (iF x))
  rw[show iF x=false by unfold iF;rw[decide_eq_false h1];rfl]
  exact rfl
noncomputable def xQ (x y:Ex):Bool:=@decide (x=y) (Classical.propDecidable _)
theorem aar {x y:Ex}:xQ x y=true↔x=y:=by unfold xQ;simp
theorem abU {x y:Ex} (h:x≠y):xQ x y=false:=by cases hc:xQ x y with | false=>rfl | true=>exact absurd (aar.1 hc) h
theorem alp {l m:List Ex} {k:Nat} (h1:k<l.length) (h2:k<m.length) (h:l.take k=m.take k) (e:l.getD k dz=m.getD k dz):l.take (k+1)=m.take (k+1):=by
 rw[aX dz h1,aX dz h2,h,e]
noncomputable def equalS:Spec:=bM (fun a:Ex×Ex=>[tL a.1,tL a.2]) (fun a=>a.1.size≤1000000) (fun a=>bP (xQ a.1 a.2))
noncomputable def apw (n:Nat):Spec:={ equalS with pre:=fun a=>equalS.pre a∧a.1.size≤n }
theorem ahK:∀n,aM Tryz.prog 134 (apw n)
 | 0=>by
  refine aW (Tb:=tab) mixed aB Tryz.func134 rfl rfl ?_
  rintro (a:Ex×Ex) hpre
  refine ai (ai rfl (ai rfl rfl)) ?_
  have:=size_pos a.1
  exact absurd hpre.2 (by show ¬a.1.size≤0;omega)
 | n+1=>by
  have ih:=ahK n
  refine aW (Tb:=tab) mixed aB Tryz.func134 rfl rfl ?_
  rintro (a:Ex×Ex) hpre
  refine ai (ai rfl (ai rfl rfl)) ?_
  obtain ⟨hm,hn⟩:=hpre
  have hm:a.1.size≤1000000:=hm
  have hn:a.1.size≤n+1:=hn
  have hal:=wm a.1
  have hsz:=a.1.size_eq
  refine aF (p:=a.1.op=a.2.op) (bZ (by omega)) (fun h1=>?_) (fun h1=>?_)
  ·refine ai (ai (fun _=>trivial) ?_) trivial
   show aC _ (bP (xQ a.1 a.2))
   rw[abU (fun h=>h1 (congrArg Ex.op h))]
   exact rfl
  refine aF (p:=a.1.idx=a.2.idx) (bZ (by omega)) (fun h2=>?_) (fun h2=>?_)
  ·refine ai (ai (fun _=>trivial) ?_) trivial
   show aC _ (bP (xQ a.1 a.2))
   rw[abU (fun h=>h2 (congrArg Ex.idx h))]
   exact rfl
  refine aF (p:=a.1.args.length=a.2.args.length) (bZ (by omega)) (fun h3=>?_) (fun h3=>?_)
  ·refine ai (ai (fun _=>trivial) ?_) trivial
   show aC _ (bP (xQ a.1 a.2))
   rw[abU (fun h=>h3 (congrArg (fun x=>x.args.length) h))]
   exact rfl
  refine ei (bI.inv { X:=Nat,up:=fun k=>[(5,.s (iA k))],uo:=fun k=>[],inv:=fun k=>k≤a.1.args.length∧(a.1.args.take k=a.2.args.take k),meas:=fun k=>a.1.args.length-k,x0:=0 }) ?_
  refine ai (ai (ai (by exact (a4 (ai rfl rfl))) (ai (by exact (ai (ai (fun _=>rfl) (iE (by simp only[zz,reduceCtorEq];rfl))) rfl)) (by exact trivial))) rfl) (ai (ai (aef _) ?_) ?_)
  ·rfl
  intro (k:Nat) ⟨hk,hall⟩
  refine ah (p:=k<a.1.args.length) (av (by omega)) (fun h4=>?_) (fun h4=>?_)
  ·refine ei (.seq [0,1,2,3,4,5,6,7,8,9,10,11]) (ai (by kernel_rfl) ?_)
   refine ai (ai (abJ _) (iN (n:=a.1.args.length) (by omega))) (ai rfl ?_)
   refine ai (ai (abJ _) (iN (n:=a.2.args.length) (by omega))) (ai rfl ?_)
   have hy:a.1.args.getD k dz∈a.1.args:=aee (aap h4)
   have hms:=kL hy
   refine ei _ (ai (ih) (ei ((a.1.args.getD k dz,a.2.args.getD k dz)) (ei [] (ai (a4 (ai (fun _=>Or.inl rfl) (ai nof (Or.inl rfl)))) (ai (by exact (ai (ai (iE (by simp only[zz,reduceCtorEq])) (ai (iE (by simp only[zz,reduceCtorEq])) (ai rfl (exE _)))) (ai (iE (by simp only[zz,reduceCtorEq])) (ai (iE (by simp only[zz,reduceCtorEq])) (ai rfl (exE _)))))) (ai trivial (ai (ai (by show (a.1.args.getD k dz).size≤1000000;omega) (by show (a.1.args.getD k dz).size≤n;omega)) ?_)))))))
   refine aF (p:=a.1.args.getD k dz=a.2.args.getD k dz) (by show (!xQ (a.1.args.getD k dz) (a.2.args.getD k dz))=true↔_;rw[aon,aqk,ne_eq,aar]) (fun h5=>?_) (fun h5=>?_)
   ·refine ai (ai (fun _=>trivial) ?_) trivial
    show aC _ (bP (xQ a.1 a.2))
    rw[abU (fun h=>h5 (by rw[h]))]
    exact rfl
   refine ei (k+1) (ai (ai rfl rfl) (ai (ai (ai rfl (ai (ai rfl rfl) (ai (ai rfl rfl) (ai (ai (ai (fun _=>rfl) (aN (by omega))) rfl) trivial)))) rfl) (ai (ai (iL (by omega)) ?_) (iM (by omega)))))
   exact alp h4 (by omega) hall h5
  ·obtain rfl:k=a.1.args.length:=by omega
   rw[afz,h3,afz] at hall
   have e:a.1=a.2:=by
    obtain ⟨⟨o,i,l⟩,⟨o',i',l'⟩⟩:=a
    simp only at h1 h2 hall
    rw[h1,h2,hall]
   refine ai (ai (fun _=>trivial) ?_) trivial
   show aC _ (bP (xQ a.1 a.2))
   rw[aar.2 e]
   exact rfl
theorem alK:aM Tryz.prog 134 equalS:=yT (fun a=>a.1.size) ahK
noncomputable def bO (x y:Ex):Bool:=iF x&&iF y&&xQ x y
noncomputable def ap2:Spec:=bM (fun a:Ex×Ex=>[tL a.1,tL a.2]) (fun a=>True) (fun a=>bP (bO a.1 a.2))
theorem fD:aM Tryz.prog 75 ap2:=by
 refine aW (Tb:=tab) mixed aB Tryz.func75 rfl rfl ?_
 rintro (a:Ex×Ex) hpre
 refine ai (ai rfl (ai rfl rfl)) ?_
 refine ei _ (ai (af0) (ei (a.1) (ei [] (ai (a4 (ai (fun _=>Or.inl rfl) (ai nof (Or.inl rfl)))) (ai (by exact (ai rfl (ai rfl (ai rfl (fun _ _=>rfl))))) (ai trivial (ai (trivial) ?_)))))))
 refine bE (b:=iF a.1) rfl (fun h1=>?_) (fun h1=>?_)
 ·refine ei _ (ai (af0) (ei (a.2) (ei [] (ai (a4 (ai (fun _=>Or.inl rfl) (ai nof (Or.inl rfl)))) (ai (by exact (ai rfl (ai rfl (ai rfl (fun _ _=>rfl))))) (ai trivial (ai (trivial) ?_)))))))
  refine bE (b:=iF a.2) rfl (fun h2=>?_) (fun h2=>?_)
  ·refine ei _ (ai (alK) (ei (a) (ei [] (ai (a4 (ai (fun _=>Or.inl rfl) (ai nof (Or.inl rfl)))) (ai (by exact (ai (ai rfl (ai rfl (ai rfl (fun _ _=>rfl)))) (ai rfl (ai rfl (ai rfl (fun _ _=>rfl)))))) (ai trivial (ai ((by show a.1.size≤1000000;have:=(vO.1 h1).1;omega)) ?_)))))))
   refine ai (ai (fun _=>trivial) ?_) trivial
   show aC _ (bP (bO a.1 a.2))
   rw[bO,h1,h2,aql,aql]
   exact rfl
  ·refine ai (ai (fun _=>trivial) ?_) trivial
   show aC _ (bP (bO a.1 a.2))
   rw[bO,h2,ar2,aqi]
   exact rfl
 ·refine ai (ai (fun _=>trivial) ?_) trivial
  show aC _ (bP (bO a.1 a.2))
  rw[bO,h1,aqi,aqi]
  exact rfl
def oh (b:Bool):Ex:=.node 0 (if b then 1 else 0) []
def ao4:Spec:=bM (fun b:Bool=>[bA b]) (fun _=>True) (fun b=>exP (oh b))
theorem alG:aM Tryz.prog 123 ao4:=by
 refine aW (Tb:=tab) mixed aB Tryz.func123 rfl rfl ?_
 rintro (b:Bool) hpre
 refine ai (ai rfl (ai rfl rfl)) ?_
 refine bE (b:=b) rfl (fun h1=>?_) (fun h1=>?_)
 ·subst h1
  refine ai (ai (fun _=>trivial) ?_) trivial
  exact (ai (iE rfl) (ai (iE rfl) rfl))
 ·subst h1
  refine ai (ai (fun _=>trivial) ?_) trivial
  exact (ai (iE rfl) (ai (iE rfl) rfl))
theorem aaq {P:Program} {f:Nat} {S:Spec} (h:aM P f S) {res:S.A→PV} (e:∀a,S.pre a→fQ (S.res a) (res a)):aM P f { S with res:=res }:=
 ⟨h.1,fun a hp E vs w hg hh hA=>(h.2 a hp E vs w hg hh hA).mono fun e' w' ⟨v,E',h1,h2,h3⟩=>⟨v,E',h1,qo (e a hp) h2,h3⟩⟩
def SLe:List SV→List SV→Prop
 | [],[]=>True
 | s :: l,t :: m=>(s=t∨∃d d',s=.p false d∧t=.p false d'∧fQ d d')∧SLe l m
 | _,_=>False
theorem SLe.get:∀{l m:List SV},SLe l m→l.length=m.length∧∀(k:Nat) (s t:SV),l[k]?=some s→m[k]?=some t→s=t∨∃d d',s=.p false d∧t=.p false d'∧fQ d d'
 | [],[],_=>⟨rfl,fun k s t h=>by simp at h⟩
 | [],_ :: _,h=>h.elim
 | _ :: _,[],h=>h.elim
 | s :: l,t :: m,⟨h1,h2⟩=>by
  obtain ⟨g1,g2⟩:=SLe.get h2
  refine ⟨by simp[g1],fun k x y hx hy=>?_⟩
  cases k with
  | zero=>simp at hx hy;subst hx;subst hy;exact h1
  | succ k=>exact g2 k x y (by simpa using hx) (by simpa using hy)
theorem amb {P:Program} {f:Nat} {S:Spec} (h:aM P f S) {args:S.A→List SV} (e:∀a,S.pre a→SLe (args a) (S.args a)):aM P f { S with args:=args }:=
 ⟨h.1,fun a hp E vs w hg hh hA=>by
  refine h.2 a hp E vs w hg hh ?_
  obtain ⟨g1,g2⟩:=(e a hp).get
  obtain ⟨h1,h2⟩:=hA
  refine ⟨h1.trans g1,fun k u t hu ht=>?_⟩
  obtain ⟨s,hs⟩:=jJ g1 ht
  have hr:=h2 k u s hu hs
  rcases g2 k s t hs ht with e | ⟨d,d',e1,e2,hle⟩
  ·subst e;exact hr
  ·subst e1;subst e2
   cases hr with
   | p _ _ _ hx=>exact .p _ _ _ (qo hle hx)⟩
abbrev Sk := Int × Bool
structure Stp where
 st:List Sk
 wt:Int
structure kr where
 fr:List Int
 to:List Int
 wh:Ex
structure bC where
 act:Int
 ins:List (List UInt8)
 sts:List Stp
 trs:List kr
def skK (x:Sk):List PV:=[iP x.1,bP x.2]
def skA (x:Sk):SV:=.p false (.agg (skK x))
def aV:Sk:=(0,false)
def wU (l:List Sk):PV:=.seq l.length (fun k=>skK (l.getD k aV))
def afm (l:List Sk):SV:=.p false (wU l)
def uX (x:Stp):List PV:=[wU x.st,iP x.wt]
def stA (x:Stp):SV:=.p false (.agg (uX x))
def st0:Stp:=⟨[],0⟩
def aiM (l:List Stp):PV:=.seq l.length (fun k=>uX (l.getD k st0))
def trK (x:kr):List PV:=[oK x.fr,oK x.to,iP x.wh.op,iP x.wh.idx,.seq x.wh.args.length (exF x.wh.args)]
def trA (x:kr):SV:=.p false (.agg (trK x))
def ak:kr:=⟨[],[],dz⟩
def apJ (l:List kr):PV:=.seq l.length (fun k=>trK (l.getD k ak))
def chK (c:bC):List PV:=[iP c.act,xM c.ins,aiM c.sts,apJ c.trs]
def nU (c:bC):PV:=.agg (chK c)
def kE (c:bC):SV:=.p false (nU c)
def jC {α:Type} (p:α→Bool) (l:List α):Int:=match l.findIdx? p with
 | some k=>k
 | none=>-1
theorem rO {α:Type} {p:α→Bool}:∀{l:List α} {k:Nat} {d:α},k<l.length→p (l.getD k d)=true→(∀y∈l.take k,p y=false)→jC p l=k
 | [],k,d,h,_,_=>by simp at h
 | x :: l,0,d,_,h,_=>by
  have h:p x=true:=h
  unfold jC;simp[List.findIdx?_cons,h]
 | x :: l,k+1,d,hk,h,hn=>by
  have h1:p x=false:=hn x (by simp)
  have h2:=rO (l:=l) (k:=k) (d:=d) (by simpa using hk) (by simpa using h) (fun y hy=>hn y (by simp[hy]))
  unfold jC at h2 ⊢
  rw[List.findIdx?_cons,h1]
  cases hc:l.findIdx? p with
  | none=>rw[hc] at h2;simp only at h2;omega
  | some q=>rw[hc] at h2;simp only at h2;simp;omega
theorem vC {α:Type} {p:α→Bool} {l:List α} (h:∀y∈l,p y=false):jC p l=-1:=by
 unfold jC
 rw[List.findIdx?_eq_none_iff.2 (by simpa using h)]
theorem tK {α:Type} (p:α→Bool) (l:List α):decide (0≤jC p l)=l.any p:=by
 unfold jC
 cases hc:l.findIdx? p with
 | none=>
  have:=List.findIdx?_eq_none_iff.1 hc
  symm;rw[show decide ((0:Int)≤-1)=false by decide,aqh]
  intro x hx;simp[this x hx]
 | some k=>
  simp only
  rw[decide_eq_true (by omega)]
  symm;rw[aq6]
  obtain ⟨h,h1,_⟩:=List.findIdx?_eq_some_iff_getElem.1 hc
  exact ⟨_,aro h,h1⟩
def anb:Spec:=bM (fun a:List (Int)×(Int)=>[isA a.1,iA a.2]) (fun a=>a.1.length≤1000000) (fun a=>iP (jC (fun y=>a.2==y) a.1))
theorem aks:aM Tryz.prog 107 anb:=by
 refine aW (Tb:=tab) mixed aB Tryz.func107 rfl rfl ?_
 rintro (a:List (Int)×(Int)) hpre
 refine ai (ai rfl (ai rfl rfl)) ?_
 have hl:a.1.length≤1000000:=hpre
 refine ei (bI.inv { X:=Nat,up:=fun k=>[(8,.s (iA k))],uo:=fun k=>[],inv:=fun k=>k≤a.1.length∧(∀y∈a.1.take k,(a.2==y)=false),meas:=fun k=>a.1.length-k,x0:=0 }) ?_
 refine ai (ai (ai (by exact (a4 (ai rfl rfl))) (ai (by exact (ai (ai (fun _=>rfl) (iE (by simp only[zz,reduceCtorEq];rfl))) rfl)) (by exact trivial))) rfl) (ai (ai (aef _) ?_) ?_)
 ·exact fun y hy=>absurd hy (by simp)
 intro (k:Nat) ⟨hk,hall⟩
 refine ah (p:=k<a.1.length) (av (by omega)) (fun h1=>?_) (fun h1=>?_)
 ·refine ai (ai (abJ _) (iN (n:=a.1.length) (by omega))) (ai rfl ?_)
  refine ah (p:=(a.2==a.1.getD k 0)=true) (by exact Iff.rfl) (fun h2=>?_) (fun h2=>?_)
  ·refine ai (ai (fun _=>trivial) ?_) trivial
   show aC _ (iP (jC (fun y=>a.2==y) a.1))
   rw[rO (d:=0) h1 h2 hall]
   exact rfl
  refine ei (k+1) (ai (ai rfl rfl) (ai (ai (ai rfl (ai (ai rfl rfl) (ai (ai rfl rfl) (ai (ai (ai (fun _=>rfl) (aN (by omega))) rfl) trivial)))) rfl) (ai (ai (iL (by omega)) ?_) (iM (by omega)))))
  intro y hy
  rw[aX 0 h1] at hy
  rcases ahq.1 hy with hy | hy
  ·exact hall y hy
  ·simp only[agL] at hy;subst hy;simpa using h2
 ·obtain rfl:k=a.1.length:=by omega
  rw[afz] at hall
  refine ai (ai (fun _=>trivial) ?_) trivial
  show aC _ (iP (jC (fun y=>a.2==y) a.1))
  rw[vC hall]
  exact rfl
def ap3:Spec:=bM (fun a:List (Int)×(Int)=>[isA a.1,iA a.2]) (fun a=>a.1.length≤1000000) (fun a=>bP (a.1.any fun y=>a.2==y))
theorem anA:aM Tryz.prog 41 ap3:=by
 refine aW (Tb:=tab) mixed aB Tryz.func41 rfl rfl ?_
 rintro (a:List (Int)×(Int)) hpre
 refine ai (ai rfl (ai rfl rfl)) ?_
 refine ei _ (ai (aks) (ei (a) (ei [] (ai (a4 (ai (fun _=>Or.inl rfl) (ai nof (Or.inl rfl)))) (ai (by exact (ai (ai rfl (fun _ _=>rfl)) rfl)) (ai trivial (ai (hpre) ?_)))))))
 refine ai (ai (fun _=>trivial) ?_) trivial
 show aC _ (bP (a.1.any fun y=>a.2==y))
 rw[(tK (fun y=>a.2==y) a.1).symm]
 exact rfl
def aoe:Spec:=bM (fun a:List (List UInt8)×(List UInt8)=>[ssA a.1,sA a.2]) (fun a=>a.1.length≤1000000) (fun a=>iP (jC (fun y=>a.2==y) a.1))
theorem akX:aM Tryz.prog 179 aoe:=by
 refine aW (Tb:=tab) mixed aB Tryz.func179 rfl rfl ?_
 rintro (a:List (List UInt8)×(List UInt8)) hpre
 refine ai (ai rfl (ai rfl rfl)) ?_
 have hl:a.1.length≤1000000:=hpre
 refine ei (bI.inv { X:=Nat,up:=fun k=>[(8,.s (iA k))],uo:=fun k=>[],inv:=fun k=>k≤a.1.length∧(∀y∈a.1.take k,(a.2==y)=false),meas:=fun k=>a.1.length-k,x0:=0 }) ?_
 refine ai (ai (ai (by exact (a4 (ai rfl rfl))) (ai (by exact (ai (ai (fun _=>rfl) (iE (by simp only[zz,reduceCtorEq];rfl))) rfl)) (by exact trivial))) rfl) (ai (ai (aef _) ?_) ?_)
 ·exact fun y hy=>absurd hy (by simp)
 intro (k:Nat) ⟨hk,hall⟩
 refine ah (p:=k<a.1.length) (av (by omega)) (fun h1=>?_) (fun h1=>?_)
 ·refine ai (ai (abJ _) (iN (n:=a.1.length) (by omega))) (ai rfl ?_)
  refine ah (p:=(a.2==a.1.getD k [])=true) (by exact Iff.rfl) (fun h2=>?_) (fun h2=>?_)
  ·refine ai (ai (fun _=>trivial) ?_) trivial
   show aC _ (iP (jC (fun y=>a.2==y) a.1))
   rw[rO (d:=[]) h1 h2 hall]
   exact rfl
  refine ei (k+1) (ai (ai rfl rfl) (ai (ai (ai rfl (ai (ai rfl rfl) (ai (ai rfl rfl) (ai (ai (ai (fun _=>rfl) (aN (by omega))) rfl) trivial)))) rfl) (ai (ai (iL (by omega)) ?_) (iM (by omega)))))
  intro y hy
  rw[aX [] h1] at hy
  rcases ahq.1 hy with hy | hy
  ·exact hall y hy
  ·simp only[agL] at hy;subst hy;simpa using h2
 ·obtain rfl:k=a.1.length:=by omega
  rw[afz] at hall
  refine ai (ai (fun _=>trivial) ?_) trivial
  show aC _ (iP (jC (fun y=>a.2==y) a.1))
  rw[vC hall]
  exact rfl
def ap9:Spec:=bM (fun a:List (List UInt8)×(List UInt8)=>[ssA a.1,sA a.2]) (fun a=>a.1.length≤1000000) (fun a=>bP (a.1.any fun y=>a.2==y))
theorem ais:aM Tryz.prog 147 ap9:=by
 refine aW (Tb:=tab) mixed aB Tryz.func147 rfl rfl ?_
 rintro (a:List (List UInt8)×(List UInt8)) hpre
 refine ai (ai rfl (ai rfl rfl)) ?_
 refine ei _ (ai (akX) (ei (a) (ei [] (ai (a4 (ai (fun _=>Or.inl rfl) (ai nof (Or.inl rfl)))) (ai (by exact (ai (ai rfl (fun _ _=>rfl)) rfl)) (ai trivial (ai (hpre) ?_)))))))
 refine ai (ai (fun _=>trivial) ?_) trivial
 show aC _ (bP (a.1.any fun y=>a.2==y))
 rw[(tK (fun y=>a.2==y) a.1).symm]
 exact rfl
def am3:Spec:=bM (fun a:List (Bool)×(Bool)=>[bsA a.1,bA a.2]) (fun a=>a.1.length≤1000000) (fun a=>iP (jC (fun y=>a.2==y) a.1))
theorem akN:aM Tryz.prog 165 am3:=by
 refine aW (Tb:=tab) mixed aB Tryz.func165 rfl rfl ?_
 rintro (a:List (Bool)×(Bool)) hpre
 refine ai (ai rfl (ai rfl rfl)) ?_
 have hl:a.1.length≤1000000:=hpre
 refine ei (bI.inv { X:=Nat,up:=fun k=>[(8,.s (iA k))],uo:=fun k=>[],inv:=fun k=>k≤a.1.length∧(∀y∈a.1.take k,(a.2==y)=false),meas:=fun k=>a.1.length-k,x0:=0 }) ?_
 refine ai (ai (ai (by exact (a4 (ai rfl rfl))) (ai (by exact (ai (ai (fun _=>rfl) (iE (by simp only[zz,reduceCtorEq];rfl))) rfl)) (by exact trivial))) rfl) (ai (ai (aef _) ?_) ?_)
 ·exact fun y hy=>absurd hy (by simp)
 intro (k:Nat) ⟨hk,hall⟩
 refine ah (p:=k<a.1.length) (av (by omega)) (fun h1=>?_) (fun h1=>?_)
 ·refine ai (ai (abJ _) (iN (n:=a.1.length) (by omega))) (ai rfl ?_)
  refine ah (p:=(a.2==a.1.getD k false)=true) (by exact Iff.rfl) (fun h2=>?_) (fun h2=>?_)
  ·refine ai (ai (fun _=>trivial) ?_) trivial
   show aC _ (iP (jC (fun y=>a.2==y) a.1))
   rw[rO (d:=false) h1 h2 hall]
   exact rfl
  refine ei (k+1) (ai (ai rfl rfl) (ai (ai (ai rfl (ai (ai rfl rfl) (ai (ai rfl rfl) (ai (ai (ai (fun _=>rfl) (aN (by omega))) rfl) trivial)))) rfl) (ai (ai (iL (by omega)) ?_) (iM (by omega)))))
  intro y hy
  rw[aX false h1] at hy
  rcases ahq.1 hy with hy | hy
  ·exact hall y hy
  ·simp only[agL] at hy;subst hy;simpa using h2
 ·obtain rfl:k=a.1.length:=by omega
  rw[afz] at hall
  refine ai (ai (fun _=>trivial) ?_) trivial
  show aC _ (iP (jC (fun y=>a.2==y) a.1))
  rw[vC hall]
  exact rfl
def aqf:Spec:=bM (fun a:List (Bool)×(Bool)=>[bsA a.1,bA a.2]) (fun a=>a.1.length≤1000000) (fun a=>bP (a.1.any fun y=>a.2==y))
theorem an6:aM Tryz.prog 132 aqf:=by
 refine aW (Tb:=tab) mixed aB Tryz.func132 rfl rfl ?_
 rintro (a:List (Bool)×(Bool)) hpre
 refine ai (ai rfl (ai rfl rfl)) ?_
 refine ei _ (ai (akN) (ei (a) (ei [] (ai (a4 (ai (fun _=>Or.inl rfl) (ai nof (Or.inl rfl)))) (ai (by exact (ai (ai rfl (fun _ _=>rfl)) rfl)) (ai trivial (ai (hpre) ?_)))))))
 refine ai (ai (fun _=>trivial) ?_) trivial
 show aC _ (bP (a.1.any fun y=>a.2==y))
 rw[(tK (fun y=>a.2==y) a.1).symm]
 exact rfl
def fP (c:UInt8):Bool:=(decide (97≤c.toNat)&&decide (c.toNat≤122))||(decide (65≤c.toNat)&&decide (c.toNat≤90))
def gJ (c:UInt8):Bool:=fP c||(decide (48≤c.toNat)&&decide (c.toNat≤57))||decide (c.toNat=95)
def an4:Spec:=bM (fun c:UInt8=>[cA c]) (fun _=>True) (fun c=>bP (fP c))
theorem ael:aM Tryz.prog 202 an4:=by
 refine aW (Tb:=tab) mixed aB Tryz.func202 rfl rfl ?_
 rintro (c:UInt8) hpre
 refine ai (ai rfl (ai rfl rfl)) ?_
 refine ah (p:=97≤c.toNat) (fJ (by omega)) (fun h1=>?_) (fun h1=>?_)
 ·refine ah (p:=c.toNat≤122) (fJ (by omega)) (fun h2=>?_) (fun h2=>?_)
  ·refine ai (ai (fun _=>trivial) ?_) trivial
   show aC _ (bP (fP c))
   rw[show fP c=true by unfold fP;rw[decide_eq_true h1,decide_eq_true h2];rfl]
   exact rfl
  refine ah (p:=65≤c.toNat) (fJ (by omega)) (fun h3=>?_) (fun h3=>?_)
  ·refine ai (ai (fun _=>trivial) ?_) trivial
   show aC _ (bP (fP c))
   rw[show fP c=decide ((c.toNat:Int)≤90) by unfold fP;rw[decide_eq_false h2,decide_eq_true h3,ar2,aql,aq5];exact decide_eq_decide.2 (by omega)]
   exact rfl
  ·omega
 ·refine ah (p:=65≤c.toNat) (fJ (by omega)) (fun h3=>?_) (fun h3=>?_)
  ·refine ai (ai (fun _=>trivial) ?_) trivial
   show aC _ (bP (fP c))
   rw[show fP c=decide ((c.toNat:Int)≤90) by unfold fP;rw[decide_eq_false h1,decide_eq_true h3,aqi,aql,aq5];exact decide_eq_decide.2 (by omega)]
   exact rfl
  ·refine ai (ai (fun _=>trivial) ?_) trivial
   show aC _ (bP (fP c))
   rw[show fP c=false by unfold fP;rw[decide_eq_false h1,decide_eq_false h3,aqi,aqi];rfl]
   exact rfl
def apL:Spec:=bM (fun c:UInt8=>[cA c]) (fun _=>True) (fun c=>bP (gJ c))
theorem ak9:aM Tryz.prog 201 apL:=by
 refine aW (Tb:=tab) mixed aB Tryz.func201 rfl rfl ?_
 rintro (c:UInt8) hpre
 refine ai (ai rfl (ai rfl rfl)) ?_
 refine ei _ (ai (ael) (ei (c) (ei [] (ai (a4 (ai (fun _=>Or.inl rfl) (ai nof (Or.inl rfl)))) (ai (by exact rfl) (ai trivial (ai (trivial) ?_)))))))
 refine bE (b:=fP c) rfl (fun h0=>?_) (fun h0=>?_)
 ·refine ai (ai (fun _=>trivial) ?_) trivial
  show aC _ (bP (gJ c))
  rw[show gJ c=true by unfold gJ;rw[h0];rfl]
  exact rfl
 refine ah (p:=48≤c.toNat) (fJ (by omega)) (fun h1=>?_) (fun h1=>?_)
 ·refine ah (p:=c.toNat≤57) (fJ (by omega)) (fun h2=>?_) (fun h2=>?_)
  ·refine ai (ai (fun _=>trivial) ?_) trivial
   show aC _ (bP (gJ c))
   rw[show gJ c=true by unfold gJ;rw[decide_eq_true h1,decide_eq_true h2,Bool.and_self,Bool.or_true,Bool.true_or]]
   exact rfl
  ·refine ai (ai (fun _=>trivial) ?_) trivial
   show aC _ (bP (gJ c))
   rw[show gJ c=((c.toNat:Int)==95) by unfold gJ;rw[h0,decide_eq_false h2,ar2,aq5,aq5,aqm,beq_iff_eq,decide_eq_true_iff];omega]
   exact rfl
 ·refine ai (ai (fun _=>trivial) ?_) trivial
  show aC _ (bP (gJ c))
  rw[show gJ c=((c.toNat:Int)==95) by unfold gJ;rw[h0,decide_eq_false h1,aqi,aq5,aq5,aqm,beq_iff_eq,decide_eq_true_iff];omega]
  exact rfl
def je (s:List UInt8):Bool:=s.all gJ&&(!s.isEmpty&&fP (s.getD 0 0))
def ap1:Spec:=bM (fun s:List UInt8=>[sA s]) (fun s=>s.length≤1000000) (fun s=>bP (je s))
theorem vF {s:List UInt8} {k:Nat} (h:k<s.length):(strOf s)[k]?=some (s.getD k 0):=by
 have h1:s[k]?=some (s.getD k 0):=bT 0 h
 show (if h:k<(strOf s).size then some ((strOf s).get k h) else none)=_
 have h2:k<(strOf s).size:=by rw[eu];exact h
 rw[dif_pos h2,←h1,aa8 h];rfl
theorem ani:aM Tryz.prog 169 ap1:=by
 refine aW (Tb:=tab) mixed aB Tryz.func169 rfl rfl ?_
 rintro (s:List UInt8) hpre
 refine ai (ai rfl (ai rfl rfl)) ?_
 have hl:s.length≤1000000:=hpre
 have hz:=eu s
 refine ei (bI.inv { X:=Nat,up:=fun k=>[(6,.s (iA k))],uo:=fun k=>[],inv:=fun k=>k≤s.length∧(∀c∈s.take k,gJ c=true),meas:=fun k=>s.length-k,x0:=0 }) ?_
 refine ai (ai (ai (by exact (a4 (ai rfl rfl))) (ai (by exact (ai (ai (fun _=>rfl) (iE (by simp only[zz,reduceCtorEq];rfl))) rfl)) (by exact trivial))) rfl) (ai (ai (aef _) ?_) ?_)
 ·exact fun y hy=>absurd hy (by simp)
 intro (k:Nat) ⟨hk,hall⟩
 refine ah (p:=k<s.length) (by exact av (by rw[hz];omega)) (fun h1=>?_) (fun h1=>?_)
 ·refine ei (s.getD k 0) (ai (ai (abJ _) (vF h1)) ?_)
  refine ei _ (ai (ak9) (ei (s.getD k 0) (ei [] (ai (a4 (ai (fun _=>Or.inl rfl) (ai nof (Or.inl rfl)))) (ai (by exact rfl) (ai trivial (ai (trivial) ?_)))))))
  refine bE (b:=!gJ (s.getD k 0)) rfl (fun h2=>?_) (fun h2=>?_)
  ·have h3:s.all gJ=false:=by
    rw[ar8]
    exact ⟨s.getD k 0,aee (bT 0 h1),by simpa using h2⟩
   refine ai (ai (fun _=>trivial) ?_) trivial
   show aC _ (bP (je s))
   rw[je,h3,aqi]
   exact rfl
  refine ei (k+1) (ai (ai rfl rfl) (ai (ai (ai rfl (ai (ai rfl rfl) (ai (ai rfl rfl) (ai (ai (ai (fun _=>rfl) (aN (by omega))) rfl) trivial)))) rfl) (ai (ai (iL (by omega)) ?_) (iM (by omega)))))
  intro y hy
  rw[aX 0 h1] at hy
  rcases ahq.1 hy with hy | hy
  ·exact hall y hy
  ·simp only[agL] at hy;subst hy;simpa using h2
 ·obtain rfl:k=s.length:=by omega
  rw[afz] at hall
  have h3:s.all gJ=true:=amN.2 hall
  refine aF (p:=s=[]) (by show (s != [])=true↔_;exact bne_iff_ne) (fun h4=>?_) (fun h4=>?_)
  ·have hp:0<s.length:=arY.2 h4
   refine ei (s.getD 0 0) (ai (ai (by decide) (vF hp)) ?_)
   refine ei _ (ai (ael) (ei (s.getD 0 0) (ei [] (ai (a4 (ai (fun _=>Or.inl rfl) (ai nof (Or.inl rfl)))) (ai (by exact rfl) (ai trivial (ai (trivial) ?_)))))))
   have h5:s.isEmpty=false:=by cases s with | nil=>exact absurd rfl h4 | cons x l=>rfl
   refine ai (ai (fun _=>trivial) ?_) trivial
   show aC _ (bP (je s))
   rw[je,h3,h5,aql,Bool.not_false,aql]
   exact rfl
  ·refine ai (ai (fun _=>trivial) ?_) trivial
   show aC _ (bP (je s))
   rw[show je s=false by rw[h4];rfl]
   exact rfl
def dW (f:Nat→Int):Nat→Int
 | 0=>0
 | n+1=>if f 0=0 then dW (fun k=>f (k+1)) n else f 0
theorem dZ:∀{n:Nat} {f:Nat→Int} {k:Nat},k<n→(∀j,j<k→f j=0)→f k≠0→dW f n=f k
 | 0,_,_,h,_,_=>by omega
 | n+1,f,0,_,_,h=>by rw[dW,if_neg h]
 | n+1,f,k+1,hk,h0,h=>by
  rw[dW,if_pos (h0 0 (by omega))]
  exact dZ (f:=fun k=>f (k+1)) (k:=k) (by omega) (fun j hj=>h0 (j+1) (by omega)) h
theorem gZ:∀{n:Nat} {f:Nat→Int},(∀j,j<n→f j=0)→dW f n=0
 | 0,_,_=>rfl
 | n+1,f,h=>by rw[dW,if_pos (h 0 (by omega))];exact gZ fun j hj=>h (j+1) (by omega)
theorem l9 {n:Nat} {f:Nat→Int} (h:dW f n=0):∀j,j<n→f j=0:=by
 induction n generalizing f with
 | zero=>intro j hj;omega
 | succ n ih=>
  intro j hj
  rw[dW] at h
  by_cases h0:f 0=0
  ·rw[if_pos h0] at h
   cases j with
   | zero=>exact h0
   | succ j=>exact ih h j (by omega)
  ·rw[if_neg h0] at h;exact absurd h h0
def oH (l:List (List UInt8)) (k:Nat):Int:=if je (l.getD k [])=false then 3 else if 24<(l.getD k []).length then 17 else if (l.take k).any (fun y=>l.getD k []==y)=true then 7 else 0
def jN (l:List (List UInt8)):Int:=if 256<l.length then 5 else dW (oH l) l.length
def apz:Spec:=bM (fun l:List (List UInt8)=>[ssA l]) (fun l=>∀s∈l,s.length≤1000000) (fun l=>iP (jN l))
theorem aij {l:List (List UInt8)} {k:Nat} (hk:k≤l.length):∀j,j<k→[sP (l.getD j [])]=[sP ((l.take k).getD j [])]:=by
 intro j hj
 rw[aaM,aaM,ah7,if_pos hj]
theorem alf:aM Tryz.prog 139 apz:=by
 refine aW (Tb:=tab) mixed aB Tryz.func139 rfl rfl ?_
 rintro (l:List (List UInt8)) hpre
 refine ai (ai rfl (ai rfl rfl)) ?_
 have hpre:∀s∈l,s.length≤1000000:=hpre
 refine ah (p:=256<l.length) (av (by omega)) (fun h0=>?_) (fun h0=>?_)
 ·refine ai (ai (fun _=>trivial) ?_) trivial
  show aC _ (iP (jN l))
  rw[jN,if_pos h0]
  exact rfl
 have hA:jN l=dW (oH l) l.length:=by unfold jN;rw[if_neg h0]
 refine ei (bI.inv { X:=Nat,up:=fun k=>[(10,.s (iA k))],uo:=fun k=>[],inv:=fun k=>k≤l.length∧(∀j,j<k→oH l j=0),meas:=fun k=>l.length-k,x0:=0 }) ?_
 refine ai (ai (ai (by exact (a4 (ai rfl rfl))) (ai (by exact (ai (ai (fun _=>rfl) (iE (by simp only[zz,reduceCtorEq];rfl))) rfl)) (by exact trivial))) rfl) (ai (ai (aef _) ?_) ?_)
 ·exact fun j hj=>absurd hj (akb _)
 intro (k:Nat) ⟨hk,hall⟩
 refine ah (p:=k<l.length) (av (by omega)) (fun h1=>?_) (fun h1=>?_)
 ·refine ai (ai (abJ _) (iN (n:=l.length) (by omega))) (ai rfl ?_)
  have hs:=hpre _ (aee (bT [] h1))
  have hz:=eu (l.getD k [])
  refine ei _ (ai (ani) (ei (l.getD k []) (ei [] (ai (a4 (ai (fun _=>Or.inl rfl) (ai nof (Or.inl rfl)))) (ai (by exact rfl) (ai trivial (ai (hs) ?_)))))))
  refine bE (b:=!je (l.getD k [])) rfl (fun h2=>?_) (fun h2=>?_)
  ·have h2:je (l.getD k [])=false:=by simpa using h2
   have e:oH l k=3:=by unfold oH;rw[if_pos h2]
   refine ai (ai (fun _=>trivial) ?_) trivial
   show aC _ (iP (jN l))
   rw[hA,dZ h1 hall (by rw[e];decide),e]
   exact rfl
  have h2:¬je (l.getD k [])=false:=by simpa using h2
  refine ah (p:=24<(l.getD k []).length) (by exact av (by show (24:Int)<((strOf (l.getD k [])).size:Int)↔_;rw[hz];omega)) (fun h3=>?_) (fun h3=>?_)
  ·have e:oH l k=17:=by unfold oH;rw[if_neg h2,if_pos h3]
   refine ai (ai (fun _=>trivial) ?_) trivial
   show aC _ (iP (jN l))
   rw[hA,dZ h1 hall (by rw[e];decide),e]
   exact rfl
  refine ai (ai (by decide) (ai (abJ _) (by show (k:Int)≤(l.length:Int);omega))) (ai (fun _ _=>rfl) ?_)
  have htk:(l.take k).length=k:=by rw[ahR];omega
  refine ei _ (ai (ais) (ei ((l.take k,l.getD k [])) (ei [] (ai (a4 (ai (fun _=>Or.inl rfl) (ai nof (Or.inl rfl)))) (ai ?_ (ai (by exact trivial) (ai ((by show (l.take k).length≤1000000;omega)) ?_)))))))
  ·refine (ai (ai ?_ ?_) rfl)
   ·show ((k:Int).toNat-(0:Int).toNat)=(l.take k).length
    rw[htk];simp
   ·intro j hj
    have hj:j<(k:Int).toNat-(0:Int).toNat:=hj
    show [sP (l.getD ((0:Int).toNat+j) [])]=_
    rw[show (0:Int).toNat+j=j by simp]
    exact aij hk j (by simpa using hj)
  refine bE (b:=(l.take k).any (fun y=>l.getD k []==y)) rfl (fun h4=>?_) (fun h4=>?_)
  ·have e:oH l k=7:=by unfold oH;rw[if_neg h2,if_neg h3,if_pos h4]
   refine ai (ai (fun _=>trivial) ?_) trivial
   show aC _ (iP (jN l))
   rw[hA,dZ h1 hall (by rw[e];decide),e]
   exact rfl
  refine ei (k+1) (ai (ai rfl rfl) (ai (ai (ai rfl (ai (ai rfl rfl) (ai (ai rfl rfl) (ai (ai (ai (fun _=>rfl) (aN (by omega))) rfl) trivial)))) rfl) (ai (ai (iL (by omega)) ?_) (iM (by omega)))))
  intro j hj
  by_cases hjk:j=k
  ·subst hjk;unfold oH;rw[if_neg h2,if_neg h3,if_neg (by rw[h4];decide)]
  ·exact hall j (by omega)
 ·obtain rfl:k=l.length:=by omega
  refine ai (ai (fun _=>trivial) ?_) trivial
  show aC _ (iP (jN l))
  rw[hA,gZ hall]
  exact rfl
end Go.Sx.Pe
namespace Go.Proofs
open Go.Shelf
def Tryz.aa2:Go.Shelf.Ren:=⟨fun | 156=>143 | 165=>173 | 166=>78 | 169=>84 | 240=>135 | 241=>206 | 276=>166 | 277=>222 | n=>n,fun | 31=>22 | 9=>9 | 3=>3 | 4=>4 | 0=>0 | 20=>20 | 72=>143 | 76=>146 | 70=>140 | 37=>141 | 75=>145 | 127=>206 | 164=>226 | 5=>5 | 80=>153 | n=>n,fun | n=>n⟩
theorem Tryz.aho : Go.Proofs.Lays.n156 Tryz.prog Tryz.aa2 := {
  mixed := by kernel_rfl
  f156 := Tryz.func143.trans (congrArg some (by kernel_rfl))
  f165 := Tryz.func173.trans (congrArg some (by kernel_rfl))
  f166 := Tryz.func78.trans (congrArg some (by kernel_rfl))
  f169 := Tryz.func84.trans (congrArg some (by kernel_rfl))
  f240 := Tryz.func135.trans (congrArg some (by kernel_rfl))
  f241 := Tryz.func206.trans (congrArg some (by kernel_rfl))
  f276 := Tryz.func166.trans (congrArg some (by kernel_rfl))
  f277 := Tryz.func222.trans (congrArg some (by kernel_rfl))
  t0 := Tryz.underlying0
  a0 := Tryz.isAgg0
  z0 := Tryz.sizeOf0
  v0 := Tryz.zeroValue0
  t3 := Tryz.underlying3
  a3 := Tryz.isAgg3
  z3 := Tryz.sizeOf3
  v3 := Tryz.zeroValue3
  t4 := Tryz.underlying4
  a4 := Tryz.isAgg4
  z4 := Tryz.sizeOf4
  v4 := Tryz.zeroValue4
  t9 := Tryz.underlying9
  a9 := Tryz.isAgg9
  z9 := Tryz.sizeOf9
  v9 := Tryz.zeroValue9
  t20 := Tryz.underlying20
  a20 := Tryz.isAgg20
  z20 := Tryz.sizeOf20
  v20 := Tryz.zeroValue20
  t31 := Tryz.underlying22
  a31 := Tryz.isAgg22
  z31 := Tryz.sizeOf22
  v31 := Tryz.zeroValue22
  t37 := Tryz.underlying141
  a37 := Tryz.isAgg141
  z37 := Tryz.sizeOf141
  v37 := Tryz.zeroValue141
  t70 := Tryz.underlying140
  a70 := Tryz.isAgg140
  z70 := Tryz.sizeOf140
  v70 := Tryz.zeroValue140
  t72 := Tryz.underlying143
  a72 := Tryz.isAgg143
  z72 := Tryz.sizeOf143
  v72 := Tryz.zeroValue143
  t75 := Tryz.underlying145
  a75 := Tryz.isAgg145
  z75 := Tryz.sizeOf145
  v75 := Tryz.zeroValue145
  t76 := Tryz.underlying146
  a76 := Tryz.isAgg146
  z76 := Tryz.sizeOf146
  v76 := Tryz.zeroValue146
  t127 := Tryz.underlying206
  a127 := Tryz.isAgg206
  z127 := Tryz.sizeOf206
  v127 := Tryz.zeroValue206
  t164 := Tryz.underlying226
  a164 := Tryz.isAgg226
  z164 := Tryz.sizeOf226
  v164 := Tryz.zeroValue226 }
theorem Tryz.qV : Builder.Extra Tryz.prog Tryz.aa2 := {
  sizeBuilder := by kernel_rfl
  liesBuilder := by kernel_rfl
  t5 := Tryz.underlying5
  a5 := Tryz.isAgg5
  z5 := Tryz.sizeOf5
  v5 := Tryz.zeroValue5
  infoByte := by kernel_rfl
  cellsByte := by kernel_rfl
  sizeByte := by kernel_rfl
  neB5 := by decide }
open Go.RowKit in
theorem Tryz.strings_Join_none (a:Option Addr) (c:Nat) (sep:ByteArray) (w:World) :
  Calls Tryz.prog 143 #[.slice a 0 c,.string sep] w fun e w'=>e=.returned (.string ⟨#[]⟩)∧w'=w:=Any.strings_Join_none Tryz.aho Tryz.qV a c sep w
open Go.RowKit in
theorem Tryz.strings_Join (bk o c:Nat) (xs:List ByteArray) (sep:ByteArray) (w:World) (hcells:∀(j:Nat) x,xs[j]?=some x→w.cell? ⟨bk,o+j,none⟩=some (.string x)) (hbk:bk<w.heap.size) (hN:xs.length≤140737488355328) (hcap:xs.length≤c) (hlen:(Lib.join (xs.map (·.data.toList)) sep.data.toList).length≤140737488355328) :
  Calls Tryz.prog 143 #[.slice (some ⟨bk,o,none⟩) xs.length c,.string sep] w fun e w'=>e=.returned (.string ⟨(Lib.join (xs.map (·.data.toList)) sep.data.toList).toArray⟩)∧Below w.heap.size w w':=Any.strings_Join Tryz.aho Tryz.qV bk o c xs sep w hcells hbk hN hcap hlen
def Tryz.agl:Go.Shelf.Ren:=⟨fun | 171=>79 | 243=>136 | 246=>167 | 283=>197 | 284=>198 | 285=>199 | 286=>200 | 129=>193 | 317=>216 | 318=>217 | 319=>218 | 320=>219 | 337=>226 | 338=>227 | n=>n,fun | 3=>3 | 9=>9 | 2=>2 | 4=>4 | 171=>253 | 0=>0 | 53=>252 | 37=>141 | 5=>5 | 173=>255 | 212=>275 | 51=>250 | 20=>20 | 213=>276 | 46=>214 | 232=>292 | 233=>293 | n=>n,fun | 17=>0 | 18=>2 | 19=>3 | n=>n⟩
theorem Tryz.aml : Go.Proofs.LaysM.n171 Tryz.prog Tryz.agl := {
  mixed := by kernel_rfl
  f129 := Tryz.func193.trans (congrArg some (by kernel_rfl))
  f171 := Tryz.func79.trans (congrArg some (by kernel_rfl))
  f243 := Tryz.func136.trans (congrArg some (by kernel_rfl))
  f246 := Tryz.func167.trans (congrArg some (by kernel_rfl))
  f283 := Tryz.func197.trans (congrArg some (by kernel_rfl))
  f284 := Tryz.func198.trans (congrArg some (by kernel_rfl))
  f285 := Tryz.func199.trans (congrArg some (by kernel_rfl))
  f286 := Tryz.func200.trans (congrArg some (by kernel_rfl))
  f317 := Tryz.func216.trans (congrArg some (by kernel_rfl))
  f318 := Tryz.func217.trans (congrArg some (by kernel_rfl))
  f319 := Tryz.func218.trans (congrArg some (by kernel_rfl))
  f320 := Tryz.func219.trans (congrArg some (by kernel_rfl))
  f337 := Tryz.func226.trans (congrArg some (by kernel_rfl))
  f338 := Tryz.func227.trans (congrArg some (by kernel_rfl))
  t0 := Tryz.underlying0
  a0 := Tryz.isAgg0
  z0 := Tryz.sizeOf0
  v0 := Tryz.zeroValue0
  t2 := Tryz.underlying2
  a2 := Tryz.isAgg2
  z2 := Tryz.sizeOf2
  v2 := Tryz.zeroValue2
  t3 := Tryz.underlying3
  a3 := Tryz.isAgg3
  z3 := Tryz.sizeOf3
  v3 := Tryz.zeroValue3
  t4 := Tryz.underlying4
  a4 := Tryz.isAgg4
  z4 := Tryz.sizeOf4
  v4 := Tryz.zeroValue4
  t5 := Tryz.underlying5
  a5 := Tryz.isAgg5
  z5 := Tryz.sizeOf5
  v5 := Tryz.zeroValue5
  t9 := Tryz.underlying9
  a9 := Tryz.isAgg9
  z9 := Tryz.sizeOf9
  v9 := Tryz.zeroValue9
  t20 := Tryz.underlying20
  a20 := Tryz.isAgg20
  z20 := Tryz.sizeOf20
  v20 := Tryz.zeroValue20
  t37 := Tryz.underlying141
  a37 := Tryz.isAgg141
  z37 := Tryz.sizeOf141
  v37 := Tryz.zeroValue141
  t46 := Tryz.underlying214
  a46 := Tryz.isAgg214
  z46 := Tryz.sizeOf214
  v46 := Tryz.zeroValue214
  t51 := Tryz.underlying250
  a51 := Tryz.isAgg250
  z51 := Tryz.sizeOf250
  v51 := Tryz.zeroValue250
  t53 := Tryz.underlying252
  a53 := Tryz.isAgg252
  z53 := Tryz.sizeOf252
  v53 := Tryz.zeroValue252
  t171 := Tryz.underlying253
  a171 := Tryz.isAgg253
  z171 := Tryz.sizeOf253
  v171 := Tryz.zeroValue253
  t173 := Tryz.underlying255
  a173 := Tryz.isAgg255
  z173 := Tryz.sizeOf255
  v173 := Tryz.zeroValue255
  t212 := Tryz.underlying275
  a212 := Tryz.isAgg275
  z212 := Tryz.sizeOf275
  v212 := Tryz.zeroValue275
  t213 := Tryz.underlying276
  a213 := Tryz.isAgg276
  z213 := Tryz.sizeOf276
  t232 := Tryz.underlying292
  a232 := Tryz.isAgg292
  z232 := Tryz.sizeOf292
  v232 := Tryz.zeroValue292
  t233 := Tryz.underlying293
  a233 := Tryz.isAgg293
  z233 := Tryz.sizeOf293
  v233 := Tryz.zeroValue293
  g17 := by kernel_rfl
  g18 := by kernel_rfl
  g19 := by kernel_rfl
  i0 := by kernel_rfl
  i2 := by kernel_rfl
  i3 := by kernel_rfl
  i4 := by kernel_rfl
  i5 := by kernel_rfl
  i9 := by kernel_rfl
  i20 := by kernel_rfl
  i37 := by kernel_rfl
  i46 := by kernel_rfl
  i51 := by kernel_rfl
  i53 := by kernel_rfl
  i171 := by kernel_rfl
  i173 := by kernel_rfl
  i212 := by kernel_rfl
  i232 := by kernel_rfl
  i233 := by kernel_rfl
  m17 := by kernel_rfl
  m18 := by kernel_rfl
  m19 := by kernel_rfl }
open Go.RowKit Go.Sort Go.Lib in
theorem Tryz.strconv_Itoa (n:Int) (h0:-9223372036854775808≤n) (h1:n≤9223372036854775807) (w:World) (htab:Lib.TabIs Tryz.prog w "internal/strconv.uint64pow10" .u64 Lib.pow10Tab) :
  Calls Tryz.prog 79 #[.int .i64 n] w fun e w'=>e=.returned (.string ⟨(Lib.itoa n).toArray⟩)∧∃k os,w'=grow (w.drewN k) os:=Any.strconv_Itoa Tryz.aml n h0 h1 w htab
def Tryz.ahi:Go.Shelf.Ren:=⟨fun | 171=>79 | 243=>136 | 246=>167 | 283=>197 | 284=>198 | 285=>199 | 286=>200 | 129=>193 | 317=>216 | 318=>217 | 319=>218 | 320=>219 | 337=>226 | 338=>227 | n=>n,fun | 3=>3 | 9=>9 | 2=>2 | 4=>4 | 171=>253 | 0=>0 | 53=>252 | 37=>141 | 5=>5 | 173=>255 | 212=>275 | 51=>250 | 20=>20 | 213=>276 | 46=>214 | 232=>292 | 233=>293 | n=>n,fun | 17=>0 | 18=>2 | 19=>3 | n=>n⟩
theorem Tryz.anC : Go.Proofs.Lays.n171 Tryz.prog Tryz.ahi := {
  mixed := by kernel_rfl
  f129 := Tryz.func193.trans (congrArg some (by kernel_rfl))
  f171 := Tryz.func79.trans (congrArg some (by kernel_rfl))
  f243 := Tryz.func136.trans (congrArg some (by kernel_rfl))
  f246 := Tryz.func167.trans (congrArg some (by kernel_rfl))
  f283 := Tryz.func197.trans (congrArg some (by kernel_rfl))
  f284 := Tryz.func198.trans (congrArg some (by kernel_rfl))
  f285 := Tryz.func199.trans (congrArg some (by kernel_rfl))
  f286 := Tryz.func200.trans (congrArg some (by kernel_rfl))
  f317 := Tryz.func216.trans (congrArg some (by kernel_rfl))
  f318 := Tryz.func217.trans (congrArg some (by kernel_rfl))
  f319 := Tryz.func218.trans (congrArg some (by kernel_rfl))
  f320 := Tryz.func219.trans (congrArg some (by kernel_rfl))
  f337 := Tryz.func226.trans (congrArg some (by kernel_rfl))
  f338 := Tryz.func227.trans (congrArg some (by kernel_rfl))
  t0 := Tryz.underlying0
  a0 := Tryz.isAgg0
  z0 := Tryz.sizeOf0
  v0 := Tryz.zeroValue0
  t2 := Tryz.underlying2
  a2 := Tryz.isAgg2
  z2 := Tryz.sizeOf2
  v2 := Tryz.zeroValue2
  t3 := Tryz.underlying3
  a3 := Tryz.isAgg3
  z3 := Tryz.sizeOf3
  v3 := Tryz.zeroValue3
  t4 := Tryz.underlying4
  a4 := Tryz.isAgg4
  z4 := Tryz.sizeOf4
  v4 := Tryz.zeroValue4
  t5 := Tryz.underlying5
  a5 := Tryz.isAgg5
  z5 := Tryz.sizeOf5
  v5 := Tryz.zeroValue5
  t9 := Tryz.underlying9
  a9 := Tryz.isAgg9
  z9 := Tryz.sizeOf9
  v9 := Tryz.zeroValue9
  t20 := Tryz.underlying20
  a20 := Tryz.isAgg20
  z20 := Tryz.sizeOf20
  v20 := Tryz.zeroValue20
  t37 := Tryz.underlying141
  a37 := Tryz.isAgg141
  z37 := Tryz.sizeOf141
  v37 := Tryz.zeroValue141
  t46 := Tryz.underlying214
  a46 := Tryz.isAgg214
  z46 := Tryz.sizeOf214
  v46 := Tryz.zeroValue214
  t51 := Tryz.underlying250
  a51 := Tryz.isAgg250
  z51 := Tryz.sizeOf250
  v51 := Tryz.zeroValue250
  t53 := Tryz.underlying252
  a53 := Tryz.isAgg252
  z53 := Tryz.sizeOf252
  v53 := Tryz.zeroValue252
  t171 := Tryz.underlying253
  a171 := Tryz.isAgg253
  z171 := Tryz.sizeOf253
  v171 := Tryz.zeroValue253
  t173 := Tryz.underlying255
  a173 := Tryz.isAgg255
  z173 := Tryz.sizeOf255
  v173 := Tryz.zeroValue255
  t212 := Tryz.underlying275
  a212 := Tryz.isAgg275
  z212 := Tryz.sizeOf275
  v212 := Tryz.zeroValue275
  t213 := Tryz.underlying276
  a213 := Tryz.isAgg276
  z213 := Tryz.sizeOf276
  t232 := Tryz.underlying292
  a232 := Tryz.isAgg292
  z232 := Tryz.sizeOf292
  v232 := Tryz.zeroValue292
  t233 := Tryz.underlying293
  a233 := Tryz.isAgg293
  z233 := Tryz.sizeOf293
  v233 := Tryz.zeroValue293
  g17 := by kernel_rfl
  g18 := by kernel_rfl
  g19 := by kernel_rfl }
open Go.RowKit Go.Sort Go.Lib in
theorem Tryz.strconv_Itoa_small (i:Nat) (hi:i<100) (w:World) :
  Calls Tryz.prog 79 #[.int .i64 i] w fun e w'=>e=.returned (.string ⟨(Lib.decDigits i).toArray⟩)∧w'=w:=Any.strconv_Itoa_small Tryz.anC i hi w
def Tryz.ahe:Go.Shelf.Ren:=⟨fun | 144=>208 | 143=>223 | 219=>229 | 217=>237 | 225=>238 | 224=>239 | 267=>240 | 266=>245 | 314=>246 | n=>n,fun | 9=>9 | 4=>4 | 3=>3 | 5=>5 | 46=>214 | 146=>298 | 51=>250 | n=>n,fun | 1=>1 | n=>n⟩
theorem Tryz.anG : Go.Proofs.Lays.n144 Tryz.prog Tryz.ahe := {
  mixed := by kernel_rfl
  f143 := Tryz.func223.trans (congrArg some (by kernel_rfl))
  f144 := Tryz.func208.trans (congrArg some (by kernel_rfl))
  f217 := Tryz.func237.trans (congrArg some (by kernel_rfl))
  f219 := Tryz.func229.trans (congrArg some (by kernel_rfl))
  f224 := Tryz.func239.trans (congrArg some (by kernel_rfl))
  f225 := Tryz.func238.trans (congrArg some (by kernel_rfl))
  f266 := Tryz.func245.trans (congrArg some (by kernel_rfl))
  f267 := Tryz.func240.trans (congrArg some (by kernel_rfl))
  f314 := Tryz.func246.trans (congrArg some (by kernel_rfl))
  t3 := Tryz.underlying3
  a3 := Tryz.isAgg3
  z3 := Tryz.sizeOf3
  v3 := Tryz.zeroValue3
  t4 := Tryz.underlying4
  a4 := Tryz.isAgg4
  z4 := Tryz.sizeOf4
  v4 := Tryz.zeroValue4
  t5 := Tryz.underlying5
  a5 := Tryz.isAgg5
  z5 := Tryz.sizeOf5
  v5 := Tryz.zeroValue5
  t9 := Tryz.underlying9
  a9 := Tryz.isAgg9
  z9 := Tryz.sizeOf9
  v9 := Tryz.zeroValue9
  t46 := Tryz.underlying214
  a46 := Tryz.isAgg214
  z46 := Tryz.sizeOf214
  v46 := Tryz.zeroValue214
  t51 := Tryz.underlying250
  a51 := Tryz.isAgg250
  z51 := Tryz.sizeOf250
  v51 := Tryz.zeroValue250
  t146 := Tryz.underlying298
  a146 := Tryz.isAgg298
  z146 := Tryz.sizeOf298
  v146 := Tryz.zeroValue298
  g1 := by kernel_rfl }
open Go.RowKit Go.Lib in
theorem Tryz.strings_Contains_one (s:ByteArray) (c:UInt8) (w:World) :
  Calls Tryz.prog 208 #[.string s,.string ⟨#[c]⟩] w fun e w'=>e=.returned (.bool (decide (0≤Lib.indexByte s.data.toList c)))∧w'=w:=Any.strings_Contains_one Tryz.anG s c w
end Go.Proofs
namespace Go.Sx.Pe
open Go Go.Proofs Go.Sx.Pn
def kF (c:UInt8):Bool:=decide (48≤c.toNat)&&decide (c.toNat≤57)
def o7 (c:UInt8):Bool:=decide (97≤c.toNat)&&decide (c.toNat≤122)
def alk (c:UInt8):Bool:=decide (65≤c.toNat)&&decide (c.toNat≤90)
def tq (c:UInt8):Bool:=kF c||o7 c||alk c||decide (c.toNat=95)
def alZ (c:UInt8):Bool:=[97,98,99,100,101,102,116,120,121,122].any (fun y:UInt8=>c==y)
def wG (c:UInt8):Bool:=decide (97≤c.toNat)&&decide (c.toNat≤102)
theorem ajt:aM Tryz.prog 178 (bM (fun c:UInt8=>[cA c]) (fun _=>True) (fun c=>bP (tq c))):=by
 refine aW (Tb:=tab) mixed aB Tryz.func178 rfl rfl ?_
 rintro (c:UInt8) hpre
 refine ai (ai rfl (ai rfl rfl)) ?_
 repeat' (refine bg (fun h=>?_) (fun h=>?_))
 all_goals
  refine ai (ai (fun _=>(by (repeat' (first | exact rfl | exact trivial | exact exE _ | exact aqx _ | exact (fun _=>rfl) | exact (fun _ _=>rfl) | exact nof | refine ai ?_ ?_)))) ?_) trivial
  show (_:Bool)=tq c
  rw[aqm]
  simp only[afd,aoH,decide_eq_true_eq,decide_eq_false_iff_not,beq_iff_eq,beq_eq_false_iff_ne,ne_eq,kF,o7,alk,tq,wG,true_iff,iff_true,reduceCtorEq,false_iff] at *
  omega
def resE:List UInt8→Bool
 | []=>false
 | c :: t=>!t.isEmpty&&((alZ c&&t.all kF)||(wG c&&(t==[112]||t==[109])))
theorem adW:∀(l:List UInt8) (c:UInt8),decide (0≤Lib.indexByte l c)=l.any fun y=>c==y
 | [],c=>by simp[Lib.indexByte]
 | x :: l,c=>by
  have ih:=adW l c
  have hge:=Lib.indexByte_ge l c
  unfold Lib.indexByte
  rw[arH]
  by_cases h:x=c
  ·subst h;simp
  ·rw[show (c==x)=false by simpa using fun e=>h e.symm,aq5,←ih]
   simp only[beq_iff_eq,h,if_false]
   split
   ·rename_i h2;rw[h2]
   ·exact decide_eq_decide.2 (by omega)
theorem adj:aM Tryz.prog 208 (bM (fun a:List UInt8×UInt8=>[sA a.1,sA [a.2]]) (fun _=>True) (fun a=>bP (a.1.any fun y=>a.2==y))):=
 agy (aec (α:=List UInt8×UInt8) Tryz.func208 rfl rfl (vals:=fun a=>[.string (strOf a.1),.string (strOf [a.2])]) (pre:=fun _=>True) (ret:=fun a=>.bool (decide (0≤Lib.indexByte a.1 a.2))) (fun _ _=>rfl)
  fun a _ w=>(Tryz.strings_Contains_one (strOf a.1) a.2 w).mono fun e w' h=>by
   obtain ⟨h1,h2⟩:=h
   subst h2
   exact ⟨h1,RowKit.Below.refl _ _⟩) id
  (fun _ _=>rfl) (fun _ _=>rfl) (fun _ _=>rfl) (fun a _=>by show PV.val (.bool (decide (0≤Lib.indexByte a.1 a.2)))=_;rw[adW];rfl) (fun _ _=>trivial)
def uj (l:List UInt8) (k:Nat):PV:=bP (l.any fun y=>y.toNat==k)
theorem acB:∀(l:List Value) (k:Nat),kP (vals l) k=.val (l.getD k undef)
 | [],k=>rfl
 | v :: l,0=>rfl
 | v :: l,k+1=>by
  show kP (vals l) k=_
  rw[acB l k];rfl
theorem anH (n:Nat) (v:Value) {k:Nat} (h:k<n):(List.replicate n v).getD k undef=v:=by
 rw[aaM,aq0,if_pos h];rfl
theorem ajC {l:List UInt8} {c:UInt8} (k:Nat):pF (uj l) c.toNat (bP true) k=uj (l++[c]) k:=by
 unfold pF uj
 rw[List.any_append]
 by_cases h:k=c.toNat
 ·rw[if_pos h];subst h;simp
 ·rw[if_neg h]
  have:(c.toNat==k)=false:=by simpa using fun e=>h e.symm
  simp[this]
def apB:Spec:=bM (fun l:List UInt8=>[sA l]) (fun l=>l.length≤1000∧∀y∈l,y.toNat<128) (fun l=>.tup [.arr 256 (uj l),bP true])
theorem alm:aM Tryz.prog 232 apB:=by
 refine aW (Tb:=tab) mixed aB Tryz.func232 rfl rfl ?_
 rintro (l:List UInt8) hpre
 refine ai (ai rfl (ai rfl rfl)) ?_
 obtain ⟨hl,ha⟩:=hpre
 have hl:l.length≤1000:=hl
 have hz:=eu l
 refine ei (bI.inv { X:=Nat,up:=fun k=>[(4,.s (iA k))],uo:=fun k=>[⟨0,287,[.ob (.arr 287 256 (uj (l.take k)))]⟩],inv:=fun k=>k≤l.length∧(True),meas:=fun k=>l.length-k,x0:=0 }) ?_
 refine ai (ai (ai (by exact (a4 (ai rfl rfl))) (ai ?_ ?_)) rfl) (ai (ai (aef _) ?_) ?_)
 ·exact (ai (ai (fun _=>rfl) (iE (by simp only[zz,reduceCtorEq];rfl))) rfl)
 ·refine (ai (ai rfl (ai rfl ?_)) trivial)
  intro k hk
  show kP (vals (List.replicate 256 (.bool false))) k=_
  rw[acB,anH 256 _ hk];rfl
 ·trivial
 intro (k:Nat) ⟨hk,_⟩
 refine ah (p:=k<l.length) (by exact av (by rw[hz];omega)) (fun h1=>?_) (fun h1=>?_)
 ·refine ei (l.getD k 0) (ai (ai (abJ _) (vF h1)) ?_)
  have hc:=ha _ (aee (bT 0 h1))
  refine ah (p:=128≤(l.getD k 0).toNat) (by exact fJ (by omega)) (fun h2=>?_) (fun h2=>?_)
  ·omega
  refine ai (ai (abJ _) (by show (((l.getD k 0).toNat:Nat):Int)<256;omega)) ?_
  refine ai (by show 0+(((l.getD k 0).toNat:Nat):Int).toNat*1<256;rw[aq1];omega) ?_
  refine ei (k+1) (ai (ai rfl rfl) (ai (ai (ai rfl (ai (ai rfl rfl) (ai (ai rfl rfl) (ai (ai (ai (fun _=>rfl) (aN (by omega))) rfl) (ai (ai rfl (ai rfl ?_)) trivial))))) rfl) (ai (ai (iL (by omega)) trivial) (iM (by omega)))))
  intro j hj
  show pF (uj (l.take k)) (0+(((l.getD k 0).toNat:Nat):Int).toNat*1) (bP true) j=_
  rw[aq1,amR,afY,ajC,aX 0 h1]
 ·obtain rfl:k=l.length:=by omega
  rw[afz]
  refine ai (ai (fun _=>(by exact (ai (fun _ _=>rfl) trivial))) ?_) trivial
  exact (ai (ai rfl (fun _ _=>rfl)) rfl)
def d9 (l:List UInt8) (c:UInt8):Bool:=l.any fun y=>y.toNat==c.toNat
def apW:Spec:={ A:=List UInt8×UInt8,args:=fun a=>[.own 0 0,cA a.2],objs:=fun a=>[.arr 287 256 (uj a.1)],pre:=fun _=>True,res:=fun a=>bP (d9 a.1 a.2),objs':=fun _=>[],fresh:=true,ro:=1 }
theorem aii:aM Tryz.prog 241 apW:=by
 refine aW (Tb:=tab) mixed aB Tryz.func241 rfl rfl ?_
 rintro (a:List UInt8×UInt8) hpre
 refine ai (ai rfl (ai rfl rfl)) ?_
 have hc:a.2.toNat<256:=a.2.toNat_lt
 have e0:0+((a.2.toNat:Nat):Int).toNat*1=a.2.toNat:=by simp
 refine ai (ai (abJ _) (by show ((a.2.toNat:Nat):Int)<256;omega)) ?_
 refine ai (by show 0+((a.2.toNat:Nat):Int).toNat*1<256;rw[e0];exact hc) ?_
 refine ai (ai (fun _=>trivial) ?_) trivial
 show (a.1.any fun y=>y.toNat==0+((a.2.toNat:Nat):Int).toNat*1)=_
 rw[e0];rfl
def qW (p:UInt8→Bool) (s:List UInt8):Nat→Nat
 | 0=>0
 | k+1=>if p (s.getD k 0) then qW p s k else k+1
def tO (p:UInt8→Bool) (s:List UInt8):List UInt8:=s.take (qW p s s.length)
theorem agK (s:List UInt8) (k:Nat):(strOf s).extract 0 k=strOf (s.take k):=by
 apply ByteArray.ext
 simp[strOf]
theorem afB (s:List UInt8) (k:Nat):(strOf s).extract k (strOf s).size=strOf (s.drop k):=by
 apply ByteArray.ext
 have:(strOf s).size=s.length:=eu s
 rw[this]
 simp[strOf]
 rw[aq3 (by simp)]
def apd (g:List UInt8→List UInt8→List UInt8):Spec:={ A:=List UInt8×List UInt8,args:=fun a=>[sA a.2,.own 0 0],objs:=fun a=>[.arr 287 256 (uj a.1)],pre:=fun a=>a.2.length≤1000000,res:=fun a=>sP (g a.1 a.2),objs':=fun _=>[],fresh:=true,ro:=1 }
theorem amA:aM Tryz.prog 234 (apd fun l s=>tO (d9 l) s):=by
 refine aW (Tb:=tab) mixed aB Tryz.func234 rfl rfl ?_
 rintro (a:List UInt8×List UInt8) hpre
 refine ai (ai rfl (ai rfl rfl)) ?_
 have hl:a.2.length≤1000000:=hpre
 refine ei (bI.inv { X:=Nat,up:=fun k=>[(0,.s (sA (a.2.take k)))],uo:=fun _=>[],inv:=fun k=>k≤a.2.length∧qW (d9 a.1) a.2 a.2.length=qW (d9 a.1) a.2 k,meas:=fun k=>k,x0:=a.2.length }) ?_
 refine ai (ai (ai (by exact (a4 (ai rfl rfl))) (ai ?_ ?_)) ?_) (ai ?_ ?_)
 ·refine (ai (ai nof ?_) rfl)
  show strOf a.2=strOf (a.2.take a.2.length)
  rw[afz]
 ·exact trivial
 ·rfl
 ·exact ⟨afi _,rfl⟩
 intro (k:Nat) ⟨hk,hinv⟩
 have htl:(a.2.take k).length=k:=by rw[ahR];omega
 have hz:(strOf (a.2.take k)).size=k:=by rw[eu,htl]
 refine ah (p:=0<k) (by exact av (by show (0:Int)<(((strOf (a.2.take k)).size:Nat):Int)↔_;rw[hz];omega)) (fun h1=>?_) (fun h1=>?_)
 ·obtain ⟨k,rfl⟩:∃j,k=j+1:=⟨k-1,by omega⟩
  have hw:IntKind.i64.wrap ((((strOf (a.2.take (k+1))).size:Nat):Int)-1)=(k:Int):=by rw[hz,jS (by omega) (by omega)];omega
  have hg:(a.2.take (k+1)).getD k 0=a.2.getD k 0:=by rw[aaM,aaM,ah7,if_pos (by omega)]
  refine ei (a.2.getD k 0) (ai (ai (by rw[hw];exact abJ _) (by rw[hw,←hg];exact vF (by omega))) ?_)
  refine ei _ (ai (aii) (ei ((a.1,a.2.getD k 0)) (ei [0] (ai (a4 (ai (fun _=>Or.inl rfl) (ai nof (Or.inl rfl)))) (ai (by exact (ai (ai rfl rfl) rfl)) (ai (by exact (ai rfl (ai rfl (fun _ _=>rfl)))) (ai (trivial) ?_)))))))
  have hT:qW (d9 a.1) a.2 (k+1)=if d9 a.1 (a.2.getD k 0) then qW (d9 a.1) a.2 k else k+1:=rfl
  refine bE (b:=!d9 a.1 (a.2.getD k 0)) rfl (fun h2=>?_) (fun h2=>?_)
  ·have h2:d9 a.1 (a.2.getD k 0)=false:=by simpa using h2
   have e:tO (d9 a.1) a.2=a.2.take (k+1):=by
    unfold tO;rw[hinv,hT,h2];rfl
   refine ai (ai (fun _=>trivial) ?_) trivial
   show aC _ (sP (tO (d9 a.1) a.2))
   rw[e]
   exact rfl
  ·have h2:d9 a.1 (a.2.getD k 0)=true:=by simpa using h2
   refine ai (ai (by decide) (ai (by rw[hw];exact abJ _) (by rw[hw,hz];omega))) ?_
   refine ei (k) (ai (ai rfl rfl) (ai (ai ?_ ?_) (ai ?_ ?_)))
   ·refine (ai rfl (ai (ai rfl rfl) (ai (ai rfl rfl) (ai (ai (ai (fun _=>rfl) ?_) rfl) trivial))))
    show (strOf (a.2.take (k+1))).extract 0 (IntKind.i64.wrap ((((strOf (a.2.take (k+1))).size:Nat):Int)-1)).toNat=strOf (a.2.take k)
    rw[hw,aq1,agK,arK,arB (by omega)]
   ·rfl
   ·exact ⟨by omega,by rw[hinv,hT,h2];rfl⟩
   ·show k<k+1;omega
 ·obtain rfl:k=0:=by omega
  have e:tO (d9 a.1) a.2=a.2.take 0:=by
   unfold tO;rw[hinv];rfl
  refine ai (ai (fun _=>trivial) ?_) trivial
  show aC _ (sP (tO (d9 a.1) a.2))
  rw[e]
  exact rfl
theorem alu:aM Tryz.prog 233 (apd fun l s=>s.dropWhile (d9 l)):=by
 refine aW (Tb:=tab) mixed aB Tryz.func233 rfl rfl ?_
 rintro (a:List UInt8×List UInt8) hpre
 refine ai (ai rfl (ai rfl rfl)) ?_
 have hl:a.2.length≤1000000:=hpre
 refine ei (bI.inv { X:=Nat,up:=fun k=>[(0,.s (sA (a.2.drop k)))],uo:=fun _=>[],inv:=fun k=>k≤a.2.length∧a.2.dropWhile (d9 a.1)=(a.2.drop k).dropWhile (d9 a.1),meas:=fun k=>a.2.length-k,x0:=0 }) ?_
 refine ai (ai (ai (by exact (a4 (ai rfl rfl))) (ai ?_ ?_)) ?_) (ai ?_ ?_)
 ·exact (ai (ai nof rfl) rfl)
 ·exact trivial
 ·rfl
 ·exact ⟨aef _,rfl⟩
 intro (k:Nat) ⟨hk,hinv⟩
 have htl:(a.2.drop k).length=a.2.length-k:=aoP
 have hz:(strOf (a.2.drop k)).size=a.2.length-k:=by rw[eu,htl]
 refine ah (p:=k<a.2.length) (by exact av (by show (0:Int)<(((strOf (a.2.drop k)).size:Nat):Int)↔_;rw[hz];omega)) (fun h1=>?_) (fun h1=>?_)
 ·have hcons:a.2.drop k=a.2.getD k 0 :: a.2.drop (k+1):=by
   rw[amM h1,aaM,aa8 h1];rfl
  refine ei (a.2.getD k 0) (ai (ai (by decide) (by rw[hcons];rfl)) ?_)
  refine ei _ (ai (aii) (ei ((a.1,a.2.getD k 0)) (ei [0] (ai (a4 (ai (fun _=>Or.inl rfl) (ai nof (Or.inl rfl)))) (ai (by exact (ai (ai rfl rfl) rfl)) (ai (by exact (ai rfl (ai rfl (fun _ _=>rfl)))) (ai (trivial) ?_)))))))
  refine bE (b:=!d9 a.1 (a.2.getD k 0)) rfl (fun h2=>?_) (fun h2=>?_)
  ·have h2:d9 a.1 (a.2.getD k 0)=false:=by simpa using h2
   have e:a.2.dropWhile (d9 a.1)=a.2.drop k:=by
    rw[hinv,hcons,arZ,if_neg (by rw[h2];decide)]
   refine ai (ai (fun _=>trivial) ?_) trivial
   show aC _ (sP (a.2.dropWhile (d9 a.1)))
   rw[e]
   exact rfl
  ·have h2:d9 a.1 (a.2.getD k 0)=true:=by simpa using h2
   refine ai (ai (by decide) (ai (by rw[hz];omega) (Int.le_refl _))) ?_
   refine ei ((k+1)) (ai (ai rfl rfl) (ai (ai ?_ ?_) (ai ?_ ?_)))
   ·refine (ai rfl (ai (ai rfl rfl) (ai (ai rfl rfl) (ai (ai (ai (fun _=>rfl) ?_) rfl) trivial))))
    show (strOf (a.2.drop k)).extract 1 ((((strOf (a.2.drop k)).size:Nat):Int)).toNat=strOf (a.2.drop (k+1))
    rw[aq1,afB,List.drop_drop]
   ·rfl
   ·exact ⟨h1,by rw[hinv,hcons,arZ,if_pos h2]⟩
   ·show a.2.length-(k+1)<a.2.length-k;omega
 ·have e:a.2.dropWhile (d9 a.1)=a.2.drop k:=by
   rw[hinv,arp (by omega)];rfl
  refine ai (ai (fun _=>trivial) ?_) trivial
  show aC _ (sP (a.2.dropWhile (d9 a.1)))
  rw[e]
  exact rfl
def qM:List UInt8:=[48,49,50,51,52,53,54,55,56,57]
def aeR (s:List UInt8):List UInt8:=(tO (d9 qM) s).dropWhile (d9 qM)
theorem anF:aM Tryz.prog 224 (bM (fun s:List UInt8=>[sA s,sA qM]) (fun s=>s.length≤1000000) (fun s=>sP (aeR s))):=by
 refine aW (Tb:=tab) mixed aB Tryz.func224 rfl rfl ?_
 rintro (s:List UInt8) hpre
 refine ai (ai rfl (ai rfl rfl)) ?_
 have hl:s.length≤1000000:=hpre
 refine ah (p:=s=[]) (by show (s==[])=true↔_;exact beq_iff_eq) (fun h1=>?_) (fun h1=>?_)
 ·subst h1
  refine ai (ai (fun _=>trivial) ?_) trivial
  exact rfl
 refine ei _ (ai (alm) (ei (qM) (ei [] (ai (a4 (ai (fun _=>Or.inl rfl) (ai nof (Or.inl rfl)))) (ai (by exact rfl) (ai trivial (ai (⟨by show qM.length≤1000;decide,by decide⟩) ?_)))))))
 refine ei _ (ai (amA) (ei ((qM,s)) (ei [0] (ai (a4 (ai (fun _=>Or.inl rfl) (ai nof (Or.inl rfl)))) (ai (by exact (ai rfl (ai rfl rfl))) (ai (by exact (ai rfl (ai rfl (fun _ _=>rfl)))) (ai (hl) ?_)))))))
 refine ei _ (ai (alu) (ei ((qM,tO (d9 qM) s)) (ei [0] (ai (a4 (ai (fun _=>Or.inl rfl) (ai nof (Or.inl rfl)))) (ai (by exact (ai rfl (ai rfl rfl))) (ai (by exact (ai rfl (ai rfl (fun _ _=>rfl)))) (ai ((by show (tO (d9 qM) s).length≤1000000;unfold tO;rw[ahR];omega)) ?_)))))))
 refine ai (ai (fun _=>trivial) ?_) trivial
 exact rfl
theorem amr (c:UInt8):d9 qM c=kF c:=by
 rw[aqm]
 unfold d9 qM kF
 simp only[arH,List.any_nil,arQ,aoH,afd,beq_iff_eq,decide_eq_true_eq]
 have h48:(48:UInt8).toNat=48:=rfl
 have h49:(49:UInt8).toNat=49:=rfl
 have h50:(50:UInt8).toNat=50:=rfl
 have h51:(51:UInt8).toNat=51:=rfl
 have h52:(52:UInt8).toNat=52:=rfl
 have h53:(53:UInt8).toNat=53:=rfl
 have h54:(54:UInt8).toNat=54:=rfl
 have h55:(55:UInt8).toNat=55:=rfl
 have h56:(56:UInt8).toNat=56:=rfl
 have h57:(57:UInt8).toNat=57:=rfl
 omega
theorem ahA {p:UInt8→Bool} {s:List UInt8}:∀{k:Nat},(∀j,j<k→p (s.getD j 0)=true)→qW p s k=0
 | 0,_=>rfl
 | k+1,h=>by rw[qW,if_pos (h k (by omega))];exact ahA fun j hj=>h j (by omega)
theorem ahC {p:UInt8→Bool} {s:List UInt8}:∀{k:Nat},qW p s k≠0→∃j,qW p s k=j+1∧p (s.getD j 0)=false∧j<k
 | 0,h=>absurd rfl h
 | k+1,h=>by
  by_cases hp:p (s.getD k 0)=true
  ·rw[qW,if_pos hp] at h ⊢
   obtain ⟨j,h1,h2,h3⟩:=ahC h
   exact ⟨j,h1,h2,by omega⟩
  ·rw[qW,if_neg hp]
   exact ⟨k,rfl,by simpa using hp,by omega⟩
theorem aer {p:UInt8→Bool}:∀{l:List UInt8},l.dropWhile p=[]↔∀x∈l,p x=true
 | []=>by simp
 | y :: l=>by
  rw[arZ]
  by_cases h:p y=true
  ·rw[if_pos h,aer];simp[h]
  ·rw[if_neg h];simp[h]
theorem aki (s:List UInt8):(aeR s==[])=s.all kF:=by
 have hset:d9 qM=kF:=funext amr
 unfold aeR
 rw[hset,aqm,beq_iff_eq,aer,amN]
 constructor
 ·intro h
  by_cases h0:qW kF s s.length=0
  ·intro x hx
   refine Classical.byContradiction fun hn=>?_
   obtain ⟨k,hk,rfl⟩:=aop hx
   have:∀m,k<m→qW kF s m≠0:=by
    intro m hm
    induction m with
    | zero=>omega
    | succ m ih=>
     rw[qW]
     by_cases e:k=m
     ·subst e
      rw[if_neg (by rw[aaM,aa8 hk];exact hn)]
      omega
     ·split
      ·exact ih (by omega)
      ·omega
   exact this _ hk h0
  ·obtain ⟨j,h1,h2,h3⟩:=ahC h0
   have:s.getD j 0∈tO kF s:=by
    unfold tO
    rw[h1,aX 0 h3];simp
   have:=h _ this
   rw[h2] at this;cases this
 ·intro h x hx
  have:qW kF s s.length=0:=ahA fun j hj=>h _ (aee (bT 0 hj))
  unfold tO at hx
  rw[this] at hx;simp at hx
theorem ajY:aM Tryz.prog 209 (bM (fun s:List UInt8=>[sA s]) (fun s=>s.length≤1000000) (fun s=>bP (!s.isEmpty&&s.all kF))):=by
 refine aW (Tb:=tab) mixed aB Tryz.func209 rfl rfl ?_
 rintro (s:List UInt8) hpre
 refine ai (ai rfl (ai rfl rfl)) ?_
 have hl:s.length≤1000000:=hpre
 refine aF (p:=s=[]) (by show (s != [])=true↔_;exact bne_iff_ne) (fun h1=>?_) (fun h1=>?_)
 ·refine ei _ (ai (anF) (ei (s) (ei [] (ai (a4 (ai (fun _=>Or.inl rfl) (ai nof (Or.inl rfl)))) (ai (by exact (ai rfl rfl)) (ai trivial (ai (hl) ?_)))))))
  have h2:s.isEmpty=false:=by cases s with | nil=>exact absurd rfl h1 | cons x l=>rfl
  refine ai (ai (fun _=>trivial) ?_) trivial
  show aC _ (bP (!s.isEmpty&&s.all kF))
  rw[show (!s.isEmpty&&s.all kF)=(aeR s==[]) by rw[h2,aki];rfl]
  exact rfl
 ·refine ai (ai (fun _=>trivial) ?_) trivial
  show aC _ (bP (!s.isEmpty&&s.all kF))
  rw[show (!s.isEmpty&&s.all kF)=false by rw[h1];rfl]
  exact rfl
theorem aia (c:UInt8):(([97,98,99,100,101,102]:List UInt8).any fun y=>c==y)=wG c:=by
 rw[aqm]
 unfold wG
 have h97:(97:UInt8).toNat=97:=rfl
 have h98:(98:UInt8).toNat=98:=rfl
 have h99:(99:UInt8).toNat=99:=rfl
 have h100:(100:UInt8).toNat=100:=rfl
 have h101:(101:UInt8).toNat=101:=rfl
 have h102:(102:UInt8).toNat=102:=rfl
 simp only[arH,List.any_nil,arQ,aoH,afd,beq_iff_eq,decide_eq_true_eq,←UInt8.toNat_inj]
 omega
theorem anY:aM Tryz.prog 177 (bM (fun s:List UInt8=>[sA s]) (fun s=>s.length≤1000000) (fun s=>bP (resE s))):=by
 refine aW (Tb:=tab) mixed aB Tryz.func177 rfl rfl ?_
 rintro (s:List UInt8) hpre
 refine ai (ai rfl (ai rfl rfl)) ?_
 have hl:s.length≤1000000:=hpre
 refine ah (p:=s=[]) (by show (s==[])=true↔_;exact beq_iff_eq) (fun h1=>?_) (fun h1=>?_)
 ·subst h1
  refine ai (ai (fun _=>trivial) ?_) trivial
  exact rfl
 obtain ⟨c,t,rfl⟩:∃c t,s=c :: t:=by
  cases s with
  | nil=>exact absurd rfl h1
  | cons c t=>exact ⟨c,t,rfl⟩
 have hz:(strOf (c :: t)).size=t.length+1:=by rw[eu];rfl
 have e1:(strOf (c :: t)).extract (0:Int).toNat (1:Int).toNat=strOf [c]:=agK (c :: t) 1
 have e2:(strOf (c :: t)).extract (1:Int).toNat ((((strOf (c :: t)).size:Nat):Int)).toNat=strOf t:=by rw[aq1];exact afB (c :: t) 1
 have hR:resE (c :: t)=(!t.isEmpty&&((alZ c&&t.all kF)||(wG c&&(t==[112]||t==[109])))):=rfl
 have b1:(0:Int)≤0∧(0:Int)≤1∧(1:Int)≤(((strOf (c :: t)).size:Nat):Int):=⟨by decide,by decide,by rw[hz];omega⟩
 have b2:(0:Int)≤1∧(1:Int)≤(((strOf (c :: t)).size:Nat):Int)∧(((strOf (c :: t)).size:Nat):Int)≤(((strOf (c :: t)).size:Nat):Int):=⟨by decide,by rw[hz];omega,Int.le_refl _⟩
 have ht:t.length≤1000000:=by simp at hl;omega
 have e3:∀y:UInt8,(((strOf (c :: t)).extract (1:Int).toNat ((((strOf (c :: t)).size:Nat):Int)).toNat).data.toList==[y])=true↔t=[y]:=fun y=>by rw[e2];exact beq_iff_eq
 refine ai b1 ?_
 refine ei _ (ai (adj) (ei (([97,98,99,100,101,102,116,120,121,122],c)) (ei [] (ai (a4 (ai (fun _=>Or.inl rfl) (ai nof (Or.inl rfl)))) (ai ?_ (ai (by exact trivial) (ai (trivial) ?_)))))))
 ·refine (ai rfl ?_)
  exact e1
 refine ah (p:=alZ c=true) (by exact Iff.rfl) (fun h2=>?_) (fun h2=>?_)
 ·refine ai b2 ?_
  refine ei _ (ai (ajY) (ei (t) (ei [] (ai (a4 (ai (fun _=>Or.inl rfl) (ai nof (Or.inl rfl)))) (ai ?_ (ai (by exact trivial) (ai (ht) ?_)))))))
  ·skip
   exact e2
  refine ah (p:=(!t.isEmpty&&t.all kF)=true) (by exact Iff.rfl) (fun h3=>?_) (fun h3=>?_)
  ·refine ai (ai (fun _=>trivial) ?_) trivial
   show aC _ (bP (resE (c :: t)))
   rw[show resE (c :: t)=true by rw[hR,h2];simp at h3 ⊢;exact ⟨h3.1,.inl h3.2⟩]
   exact rfl
  ·have hN:resE (c :: t)=(wG c&&(t==[112]||t==[109])):=by
    rw[hR]
    cases t with
    | nil=>simp
    | cons y t=>
     have h3:¬((y :: t).all kF)=true:=fun e=>h3 (by rw[e];rfl)
     rw[aqk.2 h3];simp
   refine ai b1 ?_
   refine ei _ (ai (adj) (ei (([97,98,99,100,101,102],c)) (ei [] (ai (a4 (ai (fun _=>Or.inl rfl) (ai nof (Or.inl rfl)))) (ai ?_ (ai (by exact trivial) (ai (trivial) ?_)))))))
   ·refine (ai rfl ?_)
    exact e1
   refine ah (p:=wG c=true) (by rw[aia]) (fun h4=>?_) (fun h4=>?_)
   ·refine ai b2 ?_
    refine ah (p:=t=[112]) (by exact e3 112) (fun h5=>?_) (fun h5=>?_)
    ·refine ai (ai (fun _=>trivial) ?_) trivial
     show aC _ (bP (resE (c :: t)))
     rw[hN,h4,h5]
     exact rfl
    ·refine ai b2 ?_
     refine ai (ai (fun _=>trivial) ?_) trivial
     show aC _ (bP (resE (c :: t)))
     rw[hN,h4,e2]
     skip
     show (t==[109])=(true&&(t==[112]||t==[109]))
     rw[show (t==[112])=false by simpa using h5];rfl
   ·refine ai (ai (fun _=>trivial) ?_) trivial
    show aC _ (bP (resE (c :: t)))
    rw[hN,aqk.2 h4,aqi]
    exact rfl
 ·have hN:resE (c :: t)=(wG c&&(t==[112]||t==[109])):=by
   rw[hR,aqk.2 h2]
   cases t with
   | nil=>simp
   | cons y t=>simp
  refine ai b1 ?_
  refine ei _ (ai (adj) (ei (([97,98,99,100,101,102],c)) (ei [] (ai (a4 (ai (fun _=>Or.inl rfl) (ai nof (Or.inl rfl)))) (ai ?_ (ai (by exact trivial) (ai (trivial) ?_)))))))
  ·refine (ai rfl ?_)
   exact e1
  refine ah (p:=wG c=true) (by rw[aia]) (fun h4=>?_) (fun h4=>?_)
  ·refine ai b2 ?_
   refine ah (p:=t=[112]) (by exact e3 112) (fun h5=>?_) (fun h5=>?_)
   ·refine ai (ai (fun _=>trivial) ?_) trivial
    show aC _ (bP (resE (c :: t)))
    rw[hN,h4,h5]
    exact rfl
   ·refine ai b2 ?_
    refine ai (ai (fun _=>trivial) ?_) trivial
    show aC _ (bP (resE (c :: t)))
    rw[hN,h4,e2]
    skip
    show (t==[109])=(true&&(t==[112]||t==[109]))
    rw[show (t==[112])=false by simpa using h5];rfl
  ·refine ai (ai (fun _=>trivial) ?_) trivial
   show aC _ (bP (resE (c :: t)))
   rw[hN,aqk.2 h4,aqi]
   exact rfl
def iK (s:List UInt8):Int:=if 24<s.length then 17 else if s.isEmpty||!o7 (s.getD 0 0)||resE s then 3 else if s.all tq then 0 else 3
theorem anc:aM Tryz.prog 146 (bM (fun s:List UInt8=>[sA s]) (fun s=>True) (fun s=>iP (iK s))):=by
 refine aW (Tb:=tab) mixed aB Tryz.func146 rfl rfl ?_
 rintro (s:List UInt8) hpre
 refine ai (ai rfl (ai rfl rfl)) ?_
 have hz:=eu s
 refine ah (p:=24<s.length) (by exact av (by rw[hz];omega)) (fun h1=>?_) (fun h1=>?_)
 ·refine ai (ai (fun _=>trivial) ?_) trivial
  show aC _ (iP (iK s))
  rw[iK,if_pos h1]
  exact rfl
 have hN:iK s=if s.isEmpty||!o7 (s.getD 0 0)||resE s then 3 else if s.all tq then 0 else 3:=by unfold iK;rw[if_neg h1]
 refine ah (p:=s=[]) (by show (s==[])=true↔_;exact beq_iff_eq) (fun h2=>?_) (fun h2=>?_)
 ·refine ai (ai (fun _=>trivial) ?_) trivial
  show aC _ (iP (iK s))
  rw[show iK s=3 by rw[hN,h2];rfl]
  exact rfl
 have hp:0<s.length:=arY.2 h2
 have he:s.isEmpty=false:=by cases s with | nil=>exact absurd rfl h2 | cons x l=>rfl
 have i0:(strOf s)[(0:Int).toNat]?=some (s.getD 0 0):=vF hp
 refine ei (s.getD 0 0) (ai (ai (by decide) i0) ?_)
 refine ah (p:=(s.getD 0 0).toNat<97) (av (by omega)) (fun h3=>?_) (fun h3=>?_)
 ·have hsF:o7 (s.getD 0 0)=false:=by unfold o7;rw[decide_eq_false (by omega)];rfl
  refine ai (ai (fun _=>trivial) ?_) trivial
  show aC _ (iP (iK s))
  rw[show iK s=3 by rw[hN,he,hsF];simp]
  exact rfl
 refine ei (s.getD 0 0) (ai (ai (by decide) i0) ?_)
 refine ah (p:=122<(s.getD 0 0).toNat) (av (by omega)) (fun h4=>?_) (fun h4=>?_)
 ·have hsF:o7 (s.getD 0 0)=false:=by unfold o7;rw[decide_eq_false (show ¬(s.getD 0 0).toNat≤122 by omega)];simp
  refine ai (ai (fun _=>trivial) ?_) trivial
  show aC _ (iP (iK s))
  rw[show iK s=3 by rw[hN,he,hsF];simp]
  exact rfl
 have hs:o7 (s.getD 0 0)=true:=by unfold o7;rw[decide_eq_true (by omega),decide_eq_true (by omega)];rfl
 rw[he,hs,Bool.not_true,aq5,aq5] at hN
 refine ei _ (ai (anY) (ei (s) (ei [] (ai (a4 (ai (fun _=>Or.inl rfl) (ai nof (Or.inl rfl)))) (ai (by exact rfl) (ai trivial (ai ((by show s.length≤1000000;omega)) ?_)))))))
 refine bE (b:=resE s) rfl (fun h5=>?_) (fun h5=>?_)
 ·refine ai (ai (fun _=>trivial) ?_) trivial
  show aC _ (iP (iK s))
  rw[hN,if_pos h5]
  exact rfl
 rw[if_neg (by rw[h5];decide)] at hN
 refine ei (bI.inv { X:=Nat,up:=fun k=>[(25,.s (iA k))],uo:=fun k=>[],inv:=fun k=>k≤s.length∧(∀c∈s.take k,tq c=true),meas:=fun k=>s.length-k,x0:=0 }) ?_
 refine ai (ai (ai (by exact (a4 (ai rfl rfl))) (ai (by exact (ai (ai (fun _=>rfl) (iE (by simp only[zz,reduceCtorEq];rfl))) rfl)) (by exact trivial))) rfl) (ai (ai (aef _) ?_) ?_)
 ·exact fun y hy=>absurd hy (by simp)
 intro (k:Nat) ⟨hk,hall⟩
 refine ah (p:=k<s.length) (by exact av (by rw[hz];omega)) (fun h6=>?_) (fun h6=>?_)
 ·refine ei (s.getD k 0) (ai (ai (abJ _) (vF h6)) ?_)
  refine ei _ (ai (ajt) (ei (s.getD k 0) (ei [] (ai (a4 (ai (fun _=>Or.inl rfl) (ai nof (Or.inl rfl)))) (ai (by exact rfl) (ai trivial (ai (trivial) ?_)))))))
  refine bE (b:=!tq (s.getD k 0)) rfl (fun h7=>?_) (fun h7=>?_)
  ·have h8:s.all tq=false:=by
    rw[ar8]
    exact ⟨s.getD k 0,aee (bT 0 h6),by simpa using h7⟩
   refine ai (ai (fun _=>trivial) ?_) trivial
   show aC _ (iP (iK s))
   rw[hN,if_neg (show ¬s.all tq=true by rw[h8];decide)]
   exact rfl
  refine ei (k+1) (ai (ai rfl rfl) (ai (ai (ai rfl (ai (ai rfl rfl) (ai (ai rfl rfl) (ai (ai (ai (fun _=>rfl) (aN (by omega))) rfl) trivial)))) rfl) (ai (ai (iL (by omega)) ?_) (iM (by omega)))))
  intro y hy
  rw[aX 0 h6] at hy
  rcases ahq.1 hy with hy | hy
  ·exact hall y hy
  ·simp only[agL] at hy;subst hy;simpa using h7
 ·obtain rfl:k=s.length:=by omega
  rw[afz] at hall
  refine ai (ai (fun _=>trivial) ?_) trivial
  show aC _ (iP (iK s))
  rw[hN,if_pos (amN.2 hall)]
  exact rfl
def inE (l:List (List UInt8)) (k:Nat):Int:=if ¬iK (l.getD k [])=0 then iK (l.getD k []) else if (l.take k).any (fun y=>l.getD k []==y)=true then 7 else 0
def gN (l:List (List UInt8)):Int:=if 16<l.length then 5 else dW (inE l) l.length
def amZ:Spec:=bM (fun l:List (List UInt8)=>[ssA l]) (fun _=>True) (fun l=>iP (gN l))
theorem ak8:aM Tryz.prog 89 amZ:=by
 refine aW (Tb:=tab) mixed aB Tryz.func89 rfl rfl ?_
 rintro (l:List (List UInt8)) hpre
 refine ai (ai rfl (ai rfl rfl)) ?_
 refine ah (p:=16<l.length) (av (by omega)) (fun h0=>?_) (fun h0=>?_)
 ·refine ai (ai (fun _=>trivial) ?_) trivial
  show aC _ (iP (gN l))
  rw[gN,if_pos h0]
  exact rfl
 have hA:gN l=dW (inE l) l.length:=by unfold gN;rw[if_neg h0]
 refine ei (bI.inv { X:=Nat,up:=fun k=>[(11,.s (iA k))],uo:=fun k=>[],inv:=fun k=>k≤l.length∧(∀j,j<k→inE l j=0),meas:=fun k=>l.length-k,x0:=0 }) ?_
 refine ai (ai (ai (by exact (a4 (ai rfl rfl))) (ai (by exact (ai (ai (fun _=>rfl) (iE (by simp only[zz,reduceCtorEq];rfl))) rfl)) (by exact trivial))) rfl) (ai (ai (aef _) ?_) ?_)
 ·exact fun j hj=>absurd hj (akb _)
 intro (k:Nat) ⟨hk,hall⟩
 refine ah (p:=k<l.length) (av (by omega)) (fun h1=>?_) (fun h1=>?_)
 ·refine ai (ai (abJ _) (iN (n:=l.length) (by omega))) (ai rfl ?_)
  refine ei _ (ai (anc) (ei (l.getD k []) (ei [] (ai (a4 (ai (fun _=>Or.inl rfl) (ai nof (Or.inl rfl)))) (ai (by exact rfl) (ai trivial (ai (trivial) ?_)))))))
  refine aF (p:=iK (l.getD k [])=0) (bZ (by omega)) (fun h2=>?_) (fun h2=>?_)
  ·have e:inE l k=iK (l.getD k []):=by unfold inE;rw[if_pos h2]
   refine ai (ai (fun _=>trivial) ?_) trivial
   show aC _ (iP (gN l))
   rw[hA,dZ h1 hall (by rw[e];exact h2),e]
   exact rfl
  refine ai (ai (by decide) (ai (abJ _) (by show (k:Int)≤(l.length:Int);omega))) (ai (fun _ _=>rfl) ?_)
  have htk:(l.take k).length=k:=by rw[ahR];omega
  refine ei _ (ai (ais) (ei ((l.take k,l.getD k [])) (ei [] (ai (a4 (ai (fun _=>Or.inl rfl) (ai nof (Or.inl rfl)))) (ai ?_ (ai (by exact trivial) (ai ((by show (l.take k).length≤1000000;omega)) ?_)))))))
  ·refine (ai (ai ?_ ?_) rfl)
   ·show ((k:Int).toNat-(0:Int).toNat)=(l.take k).length
    rw[htk];simp
   ·intro j hj
    have hj:j<(k:Int).toNat-(0:Int).toNat:=hj
    show [sP (l.getD ((0:Int).toNat+j) [])]=_
    rw[show (0:Int).toNat+j=j by simp]
    exact aij hk j (by simpa using hj)
  refine bE (b:=(l.take k).any (fun y=>l.getD k []==y)) rfl (fun h4=>?_) (fun h4=>?_)
  ·have e:inE l k=7:=by unfold inE;rw[if_neg (fun h=>h h2),if_pos h4]
   refine ai (ai (fun _=>trivial) ?_) trivial
   show aC _ (iP (gN l))
   rw[hA,dZ h1 hall (by rw[e];decide),e]
   exact rfl
  refine ei (k+1) (ai (ai rfl rfl) (ai (ai (ai rfl (ai (ai rfl rfl) (ai (ai rfl rfl) (ai (ai (ai (fun _=>rfl) (aN (by omega))) rfl) trivial)))) rfl) (ai (ai (iL (by omega)) ?_) (iM (by omega)))))
  intro j hj
  by_cases hjk:j=k
  ·subst hjk;unfold inE;rw[if_neg (fun h=>h h2),if_neg (by rw[h4];decide)]
  ·exact hall j (by omega)
 ·obtain rfl:k=l.length:=by omega
  refine ai (ai (fun _=>trivial) ?_) trivial
  show aC _ (iP (gN l))
  rw[hA,gZ hall]
  exact rfl
theorem qg {α:Type} {p:α→Bool} {l:List α} {k:Nat} {d:α} (h:k<l.length) (hp:p (l.getD k d)=true):l.any p=true:=
 aq6.2 ⟨_,aee (bT d h),hp⟩
def ou (act:Int) (l:List Sk) (k:Nat):Int:=if (l.getD k aV).1<0∨act≤(l.getD k aV).1 then 2 else if 0<k∧(l.getD k aV).1≤(l.getD (k-1) aV).1 then 9 else 0
def jr (act:Int) (s:Stp):Int:=if ¬dW (ou act s.st) s.st.length=0 then dW (ou act s.st) s.st.length else if s.wt<0∨1000000<s.wt then 2 else 0
def aqe:Spec:=bM (fun a:bC×Stp=>[kE a.1,stA a.2]) (fun a=>a.2.st.length≤1000000) (fun a=>iP (jr a.1.act a.2))
theorem step_ok:aM Tryz.prog 90 aqe:=by
 refine aW (Tb:=tab) mixed aB Tryz.func90 rfl rfl ?_
 rintro (a:bC×Stp) hpre
 refine ai (ai rfl (ai rfl rfl)) ?_
 have hl:a.2.st.length≤1000000:=hpre
 refine ei (bI.inv { X:=Nat,up:=fun k=>[(10,.s (iA k))],uo:=fun k=>[],inv:=fun k=>k≤a.2.st.length∧(∀j,j<k→ou a.1.act a.2.st j=0),meas:=fun k=>a.2.st.length-k,x0:=0 }) ?_
 refine ai (ai (ai (by exact (a4 (ai rfl rfl))) (ai (by exact (ai (ai (fun _=>rfl) (iE (by simp only[zz,reduceCtorEq];rfl))) rfl)) (by exact trivial))) rfl) (ai (ai (aef _) ?_) ?_)
 ·exact fun j hj=>absurd hj (akb _)
 intro (k:Nat) ⟨hk,hall⟩
 refine ah (p:=k<a.2.st.length) (av (by omega)) (fun h1=>?_) (fun h1=>?_)
 ·refine ai (ai (abJ _) (iN (n:=a.2.st.length) (by omega))) (ai rfl ?_)
  refine ah (p:=(a.2.st.getD k aV).1<0) (av Iff.rfl) (fun h2=>?_) (fun h2=>?_)
  ·have e:ou a.1.act a.2.st k=2:=by unfold ou;rw[if_pos (by omega)]
   have e2:dW (ou a.1.act a.2.st) a.2.st.length=2:=(dZ h1 hall (by rw[e];decide)).trans e
   refine ai (ai (fun _=>trivial) ?_) trivial
   show aC _ (iP (jr a.1.act a.2))
   rw[jr,if_pos (show ¬dW (ou a.1.act a.2.st) a.2.st.length=0 by rw[e2];decide),e2]
   exact rfl
  refine ah (p:=a.1.act≤(a.2.st.getD k aV).1) (fJ Iff.rfl) (fun h3=>?_) (fun h3=>?_)
  ·have e:ou a.1.act a.2.st k=2:=by unfold ou;rw[if_pos (by omega)]
   have e2:dW (ou a.1.act a.2.st) a.2.st.length=2:=(dZ h1 hall (by rw[e];decide)).trans e
   refine ai (ai (fun _=>trivial) ?_) trivial
   show aC _ (iP (jr a.1.act a.2))
   rw[jr,if_pos (show ¬dW (ou a.1.act a.2.st) a.2.st.length=0 by rw[e2];decide),e2]
   exact rfl
  refine ei (.seq [0,1,2,3,4,5,6,7,8,9,10,11,12,13,14]) (ai (by kernel_rfl) ?_)
  refine ah (p:=0<k) (av (by omega)) (fun h4=>?_) (fun h4=>?_)
  ·have hw:IntKind.i64.wrap ((k:Int)-1)=((k-1:Nat):Int):=amf h4 (by omega)
   refine ai (ai (by rw[hw];exact abJ _) (by rw[hw];show ((k-1:Nat):Int)<(a.2.st.length:Int);omega)) ?_
   refine ai rfl ?_
   refine ah (p:=(a.2.st.getD k aV).1≤(a.2.st.getD (k-1) aV).1) (by exact fJ (by rw[hw];exact Iff.rfl)) (fun h5=>?_) (fun h5=>?_)
   ·have e:ou a.1.act a.2.st k=9:=by unfold ou;rw[if_neg (by omega),if_pos ⟨h4,h5⟩]
    have e2:dW (ou a.1.act a.2.st) a.2.st.length=9:=(dZ h1 hall (by rw[e];decide)).trans e
    refine ai (ai (fun _=>trivial) ?_) trivial
    show aC _ (iP (jr a.1.act a.2))
    rw[jr,if_pos (show ¬dW (ou a.1.act a.2.st) a.2.st.length=0 by rw[e2];decide),e2]
    exact rfl
   ·refine ei (k+1) (ai (ai rfl rfl) (ai (ai (ai rfl (ai (ai rfl rfl) (ai (ai rfl rfl) (ai (ai (ai (fun _=>rfl) (aN (by omega))) rfl) trivial)))) rfl) (ai (ai (iL (by omega)) ?_) (iM (by omega)))))
    intro j hj
    by_cases hjk:j=k
    ·subst hjk;unfold ou;rw[if_neg (by omega),if_neg (fun h=>h5 h.2)]
    ·exact hall j (by omega)
  ·refine ei (k+1) (ai (ai rfl rfl) (ai (ai (ai rfl (ai (ai rfl rfl) (ai (ai rfl rfl) (ai (ai (ai (fun _=>rfl) (aN (by omega))) rfl) trivial)))) rfl) (ai (ai (iL (by omega)) ?_) (iM (by omega)))))
   intro j hj
   by_cases hjk:j=k
   ·subst hjk;unfold ou;rw[if_neg (by omega),if_neg (fun h=>h4 h.1)]
   ·exact hall j (by omega)
 ·obtain rfl:k=a.2.st.length:=by omega
  have e2:dW (ou a.1.act a.2.st) a.2.st.length=0:=gZ hall
  have hA:jr a.1.act a.2=if a.2.wt<0∨1000000<a.2.wt then 2 else 0:=by unfold jr;rw[if_neg (fun h=>h e2)]
  refine ah (p:=a.2.wt<0) (av (by omega)) (fun h6=>?_) (fun h6=>?_)
  ·refine ai (ai (fun _=>trivial) ?_) trivial
   show aC _ (iP (jr a.1.act a.2))
   rw[hA,if_pos (.inl h6)]
   exact rfl
  refine ah (p:=1000000<a.2.wt) (av (by omega)) (fun h7=>?_) (fun h7=>?_)
  ·refine ai (ai (fun _=>trivial) ?_) trivial
   show aC _ (iP (jr a.1.act a.2))
   rw[hA,if_pos (.inr h7)]
   exact rfl
  ·refine ai (ai (fun _=>trivial) ?_) trivial
   show aC _ (iP (jr a.1.act a.2))
   rw[hA,if_neg (fun h=>h.elim h6 h7)]
   exact rfl
def vv (n:Nat) (l:List Int) (k:Nat):Int:=if l.getD k 0<0∨(n:Int)≤l.getD k 0 then 2 else if 0<k∧l.getD k 0≤l.getD (k-1) 0 then 9 else 0
def kR (n:Nat) (l:List Int):Int:=if l.length=0 then 13 else dW (vv n l) l.length
def aqG:Spec:=bM (fun a:bC×List Int=>[kE a.1,isA a.2]) (fun a=>a.2.length≤1000000) (fun a=>iP (kR a.1.sts.length a.2))
theorem adR:aM Tryz.prog 148 aqG:=by
 refine aW (Tb:=tab) mixed aB Tryz.func148 rfl rfl ?_
 rintro (a:bC×List Int) hpre
 refine ai (ai rfl (ai rfl rfl)) ?_
 have hl:a.2.length≤1000000:=hpre
 refine ah (p:=a.2.length=0) (gD (by omega)) (fun h0=>?_) (fun h0=>?_)
 ·refine ai (ai (fun _=>trivial) ?_) trivial
  show aC _ (iP (kR a.1.sts.length a.2))
  rw[kR,if_pos h0]
  exact rfl
 have hA:kR a.1.sts.length a.2=dW (vv a.1.sts.length a.2) a.2.length:=by unfold kR;rw[if_neg h0]
 refine ei (bI.inv { X:=Nat,up:=fun k=>[(12,.s (iA k))],uo:=fun k=>[],inv:=fun k=>k≤a.2.length∧(∀j,j<k→vv a.1.sts.length a.2 j=0),meas:=fun k=>a.2.length-k,x0:=0 }) ?_
 refine ai (ai (ai (by exact (a4 (ai rfl rfl))) (ai (by exact (ai (ai (fun _=>rfl) (iE (by simp only[zz,reduceCtorEq];rfl))) rfl)) (by exact trivial))) rfl) (ai (ai (aef _) ?_) ?_)
 ·exact fun j hj=>absurd hj (akb _)
 intro (k:Nat) ⟨hk,hall⟩
 refine ah (p:=k<a.2.length) (av (by omega)) (fun h1=>?_) (fun h1=>?_)
 ·skip
  refine ai (ai (abJ _) (iN (n:=a.2.length) (by omega))) (ai rfl ?_)
  refine ah (p:=a.2.getD k 0<0) (av Iff.rfl) (fun h2=>?_) (fun h2=>?_)
  ·have e:vv a.1.sts.length a.2 k=2:=by unfold vv;rw[if_pos (by omega)]
   refine ai (ai (fun _=>trivial) ?_) trivial
   show aC _ (iP (kR a.1.sts.length a.2))
   rw[hA,dZ h1 hall (by rw[e];decide),e]
   exact rfl
  skip
  refine ah (p:=(a.1.sts.length:Int)≤a.2.getD k 0) (fJ Iff.rfl) (fun h3=>?_) (fun h3=>?_)
  ·have e:vv a.1.sts.length a.2 k=2:=by unfold vv;rw[if_pos (by omega)]
   refine ai (ai (fun _=>trivial) ?_) trivial
   show aC _ (iP (kR a.1.sts.length a.2))
   rw[hA,dZ h1 hall (by rw[e];decide),e]
   exact rfl
  skip
  refine ah (p:=0<k) (av (by omega)) (fun h4=>?_) (fun h4=>?_)
  ·have hw:IntKind.i64.wrap ((k:Int)-1)=((k-1:Nat):Int):=amf h4 (by omega)
   skip
   refine ai (ai (by rw[hw];exact abJ _) (by rw[hw];show ((k-1:Nat):Int)<(a.2.length:Int);omega)) ?_
   refine ai rfl ?_
   refine ah (p:=a.2.getD k 0≤a.2.getD (k-1) 0) (by exact fJ (by rw[hw];exact Iff.rfl)) (fun h5=>?_) (fun h5=>?_)
   ·have e:vv a.1.sts.length a.2 k=9:=by unfold vv;rw[if_neg (by omega),if_pos ⟨h4,h5⟩]
    refine ai (ai (fun _=>trivial) ?_) trivial
    show aC _ (iP (kR a.1.sts.length a.2))
    rw[hA,dZ h1 hall (by rw[e];decide),e]
    exact rfl
   ·refine ei (k+1) (ai (ai rfl rfl) (ai (ai (ai rfl (ai (ai rfl rfl) (ai (ai rfl rfl) (ai (ai (ai (fun _=>rfl) (aN (by omega))) rfl) trivial)))) rfl) (ai (ai (iL (by omega)) ?_) (iM (by omega)))))
    intro j hj
    by_cases hjk:j=k
    ·subst hjk;unfold vv;rw[if_neg (by omega),if_neg (fun h=>h5 h.2)]
    ·exact hall j (by omega)
  ·refine ei (k+1) (ai (ai rfl rfl) (ai (ai (ai rfl (ai (ai rfl rfl) (ai (ai rfl rfl) (ai (ai (ai (fun _=>rfl) (aN (by omega))) rfl) trivial)))) rfl) (ai (ai (iL (by omega)) ?_) (iM (by omega)))))
   intro j hj
   by_cases hjk:j=k
   ·subst hjk;unfold vv;rw[if_neg (by omega),if_neg (fun h=>h4 h.1)]
   ·exact hall j (by omega)
 ·obtain rfl:k=a.2.length:=by omega
  refine ai (ai (fun _=>trivial) ?_) trivial
  show aC _ (iP (kR a.1.sts.length a.2))
  rw[hA,gZ hall]
  exact rfl
def um (c:bC):Int:=2*c.act+c.ins.length+c.sts.length
def abK (c:bC):Prop:=0≤c.act∧c.act≤1000∧c.ins.length≤1000000∧c.sts.length≤1000000
def apY:Spec:=bM (fun c:bC=>[kE c]) abK (fun c=>iP (um c))
theorem an8:aM Tryz.prog 149 apY:=by
 refine aW (Tb:=tab) mixed aB Tryz.func149 rfl rfl ?_
 rintro (c:bC) hpre
 refine ai (ai rfl (ai rfl rfl)) ?_
 obtain ⟨h1,h2,h3,h4⟩:=hpre
 have h1:0≤c.act:=h1
 have h2:c.act≤1000:=h2
 have h3:c.ins.length≤1000000:=h3
 have h4:c.sts.length≤1000000:=h4
 refine ai (ai (fun _=>trivial) ?_) trivial
 show IntKind.i64.wrap (IntKind.i64.wrap (IntKind.i64.wrap (2*c.act)+(c.ins.length:Int))+(c.sts.length:Int))=um c
 rw[jS (n:=2*c.act) (by omega) (by omega),jS (n:=2*c.act+(c.ins.length:Int)) (by omega) (by omega),jS (by omega) (by omega)];rfl
def lQ (c:bC) (t:kr):Int:=if ¬kR c.sts.length t.fr=0 then kR c.sts.length t.fr else if ¬kR c.sts.length t.to=0 then kR c.sts.length t.to else gQ t.wh (um c)
def ajv (t:kr):Prop:=t.fr.length≤1000000∧t.to.length≤1000000∧t.wh.size≤1000000
def aqy:Spec:=bM (fun a:bC×kr=>[kE a.1,trA a.2]) (fun a=>abK a.1∧ajv a.2) (fun a=>iP (lQ a.1 a.2))
theorem apK:aM Tryz.prog 91 aqy:=by
 refine aW (Tb:=tab) mixed aB Tryz.func91 rfl rfl ?_
 rintro (a:bC×kr) hpre
 refine ai (ai rfl (ai rfl rfl)) ?_
 obtain ⟨hs,h1,h2,h3⟩:=hpre
 refine ei (bI.unroll 3) ?_
 refine ai (by decide) ?_
 refine ai (by decide) ?_
 refine ei _ (ai (adR) (ei ((a.1,a.2.fr)) (ei [] (ai (a4 (ai (fun _=>Or.inl rfl) (ai nof (Or.inl rfl)))) (ai (by exact (ai (ai rfl (ai (ai rfl (fun _ _=>rfl)) (ai (ai rfl (fun _ _=>rfl)) (ai rfl (fun _ _=>rfl))))) (ai rfl (fun _ _=>rfl)))) (ai trivial (ai (h1) ?_)))))))
 refine aF (p:=kR a.1.sts.length a.2.fr=0) (bZ (by dsimp only;omega)) (fun g1=>?_) (fun g1=>?_)
 ·refine ai (ai (fun _=>trivial) ?_) trivial
  show aC _ (iP (lQ a.1 a.2))
  rw[lQ,if_pos g1]
  exact rfl
 refine ai (by decide) ?_
 refine ai (by decide) ?_
 refine ei _ (ai (adR) (ei ((a.1,a.2.to)) (ei [] (ai (a4 (ai (fun _=>Or.inl rfl) (ai nof (Or.inl rfl)))) (ai (by exact (ai (ai rfl (ai (ai rfl (fun _ _=>rfl)) (ai (ai rfl (fun _ _=>rfl)) (ai rfl (fun _ _=>rfl))))) (ai rfl (fun _ _=>rfl)))) (ai trivial (ai (h2) ?_)))))))
 refine aF (p:=kR a.1.sts.length a.2.to=0) (bZ (by dsimp only;omega)) (fun g2=>?_) (fun g2=>?_)
 ·refine ai (ai (fun _=>trivial) ?_) trivial
  show aC _ (iP (lQ a.1 a.2))
  rw[lQ,if_neg (fun h=>h g1),if_pos g2]
  exact rfl
 refine ei (.seq [0,1,2,3,4,5]) (ai (by kernel_rfl) ?_)
 refine ei _ (ai (an8) (ei (a.1) (ei [] (ai (a4 (ai (fun _=>Or.inl rfl) (ai nof (Or.inl rfl)))) (ai (by exact (ai rfl (ai (ai rfl (fun _ _=>rfl)) (ai (ai rfl (fun _ _=>rfl)) (ai rfl (fun _ _=>rfl)))))) (ai trivial (ai (hs) ?_)))))))
 refine ei _ (ai (af6) (ei ((a.2.wh,um a.1)) (ei [] (ai (a4 (ai (fun _=>Or.inl rfl) (ai nof (Or.inl rfl)))) (ai (by exact (ai (ai rfl (ai rfl (ai rfl (fun _ _=>rfl)))) rfl)) (ai trivial (ai (h3) ?_)))))))
 refine ai (ai (fun _=>trivial) ?_) trivial
 show aC _ (iP (lQ a.1 a.2))
 rw[lQ,if_neg (fun h=>h g1),if_neg (fun h=>h g2)]
 exact rfl
def alq:Spec:=bM (fun a:bC×List Stp=>[.p false (aiM a.2),.p false (.bnd 90 [nU a.1])]) (fun a=>a.2.length≤1000000∧∀s∈a.2,s.st.length≤1000000) (fun a=>iP (dW (fun k=>jr a.1.act (a.2.getD k st0)) a.2.length))
theorem aiK:aM Tryz.prog 92 alq:=by
 refine aW (Tb:=tab) mixed aB Tryz.func92 rfl rfl ?_
 rintro (a:bC×List Stp) hpre
 refine ai (ai rfl (ai rfl rfl)) ?_
 obtain ⟨hl,hs⟩:=hpre
 have hl:a.2.length≤1000000:=hl
 refine ei (bI.inv { X:=Nat,up:=fun k=>[(10,.s (iA k))],uo:=fun k=>[],inv:=fun k=>k≤a.2.length∧(∀j,j<k→jr a.1.act (a.2.getD j st0)=0),meas:=fun k=>a.2.length-k,x0:=0 }) ?_
 refine ai (ai (ai (by exact (a4 (ai rfl rfl))) (ai (by exact (ai (ai (fun _=>rfl) (iE (by simp only[zz,reduceCtorEq];rfl))) rfl)) (by exact trivial))) rfl) (ai (ai (aef _) ?_) ?_)
 ·exact fun j hj=>absurd hj (akb _)
 intro (k:Nat) ⟨hk,hall⟩
 refine ah (p:=k<a.2.length) (av (by omega)) (fun h1=>?_) (fun h1=>?_)
 ·refine ai (ai (abJ _) (iN (n:=a.2.length) (by omega))) (ai rfl ?_)
  refine ei _ (ai (step_ok) (ei ((a.1,a.2.getD k st0)) (ei [] (ai (a4 (ai (fun _=>Or.inl rfl) (ai nof (Or.inl rfl)))) (ai (by exact (ai (ai rfl (ai (ai rfl (fun _ _=>rfl)) (ai (ai rfl (fun _ _=>rfl)) (ai rfl (fun _ _=>rfl))))) (ai (ai rfl (fun _ _=>rfl)) (iE (by simp only[zz,reduceCtorEq]))))) (ai trivial (ai (hs _ (aee (bT st0 h1))) ?_)))))))
  refine aF (p:=jr a.1.act (a.2.getD k st0)=0) (bZ (by dsimp only;omega)) (fun h2=>?_) (fun h2=>?_)
  ·refine ai (ai (fun _=>trivial) ?_) trivial
   show aC _ (iP (dW (fun k=>jr a.1.act (a.2.getD k st0)) a.2.length))
   rw[dZ h1 hall h2]
   exact rfl
  refine ei (k+1) (ai (ai rfl rfl) (ai (ai (ai rfl (ai (ai rfl rfl) (ai (ai rfl rfl) (ai (ai (ai (fun _=>rfl) (aN (by omega))) rfl) trivial)))) rfl) (ai (ai (iL (by omega)) ?_) (iM (by omega)))))
  intro j hj
  by_cases hjk:j=k
  ·subst hjk;exact h2
  ·exact hall j (by omega)
 ·obtain rfl:k=a.2.length:=by omega
  refine ai (ai (fun _=>trivial) ?_) trivial
  show aC _ (iP (dW (fun k=>jr a.1.act (a.2.getD k st0)) a.2.length))
  rw[gZ hall]
  exact rfl
def al5:Spec:=bM (fun a:bC×List kr=>[.p false (apJ a.2),.p false (.bnd 91 [nU a.1])]) (fun a=>a.2.length≤1000000∧abK a.1∧∀s∈a.2,ajv s) (fun a=>iP (dW (fun k=>lQ a.1 (a.2.getD k ak)) a.2.length))
theorem aiY:aM Tryz.prog 93 al5:=by
 refine aW (Tb:=tab) mixed aB Tryz.func93 rfl rfl ?_
 rintro (a:bC×List kr) hpre
 refine ai (ai rfl (ai rfl rfl)) ?_
 obtain ⟨hl,hc,hs⟩:=hpre
 have hl:a.2.length≤1000000:=hl
 refine ei (bI.inv { X:=Nat,up:=fun k=>[(10,.s (iA k))],uo:=fun k=>[],inv:=fun k=>k≤a.2.length∧(∀j,j<k→lQ a.1 (a.2.getD j ak)=0),meas:=fun k=>a.2.length-k,x0:=0 }) ?_
 refine ai (ai (ai (by exact (a4 (ai rfl rfl))) (ai (by exact (ai (ai (fun _=>rfl) (iE (by simp only[zz,reduceCtorEq];rfl))) rfl)) (by exact trivial))) rfl) (ai (ai (aef _) ?_) ?_)
 ·exact fun j hj=>absurd hj (akb _)
 intro (k:Nat) ⟨hk,hall⟩
 refine ah (p:=k<a.2.length) (av (by omega)) (fun h1=>?_) (fun h1=>?_)
 ·refine ai (ai (abJ _) (iN (n:=a.2.length) (by omega))) (ai rfl ?_)
  refine ei _ (ai (apK) (ei ((a.1,a.2.getD k ak)) (ei [] (ai (a4 (ai (fun _=>Or.inl rfl) (ai nof (Or.inl rfl)))) (ai (by exact (ai (ai rfl (ai (ai rfl (fun _ _=>rfl)) (ai (ai rfl (fun _ _=>rfl)) (ai rfl (fun _ _=>rfl))))) (ai (ai rfl (fun _ _=>rfl)) (ai (ai rfl (fun _ _=>rfl)) (ai (iE (by simp only[zz,reduceCtorEq])) (ai (iE (by simp only[zz,reduceCtorEq])) (ai rfl (fun _ _=>rfl)))))))) (ai trivial (ai (⟨hc,hs _ (aee (bT ak h1))⟩) ?_)))))))
  refine aF (p:=lQ a.1 (a.2.getD k ak)=0) (bZ (by dsimp only;omega)) (fun h2=>?_) (fun h2=>?_)
  ·refine ai (ai (fun _=>trivial) ?_) trivial
   show aC _ (iP (dW (fun k=>lQ a.1 (a.2.getD k ak)) a.2.length))
   rw[dZ h1 hall h2]
   exact rfl
  refine ei (k+1) (ai (ai rfl rfl) (ai (ai (ai rfl (ai (ai rfl rfl) (ai (ai rfl rfl) (ai (ai (ai (fun _=>rfl) (aN (by omega))) rfl) trivial)))) rfl) (ai (ai (iL (by omega)) ?_) (iM (by omega)))))
  intro j hj
  by_cases hjk:j=k
  ·subst hjk;exact h2
  ·exact hall j (by omega)
 ·obtain rfl:k=a.2.length:=by omega
  refine ai (ai (fun _=>trivial) ?_) trivial
  show aC _ (iP (dW (fun k=>lQ a.1 (a.2.getD k ak)) a.2.length))
  rw[gZ hall]
  exact rfl
def cK (c:bC):Int:=
 if c.act<1∨6<c.act then 2 else if ¬gN c.ins=0 then gN c.ins else if c.sts.length=0 then 13 else if 24<c.sts.length∨32<c.trs.length then 5 else
 if ¬dW (fun k=>jr c.act (c.sts.getD k st0)) c.sts.length=0 then dW (fun k=>jr c.act (c.sts.getD k st0)) c.sts.length else dW (fun k=>lQ c (c.trs.getD k ak)) c.trs.length
def lF (c:bC):Prop:=(∀s∈c.sts,s.st.length≤1000000)∧∀t∈c.trs,ajv t
theorem vR {l:List (List UInt8)} (h:gN l=0):l.length≤16:=by
 unfold gN at h
 split at h
 ·cases h
 ·omega
def aqW:Spec:=bM (fun c:bC=>[kE c]) lF (fun c=>iP (cK c))
theorem ajM:aM Tryz.prog 26 aqW:=by
 refine aW (Tb:=tab) mixed aB Tryz.func26 rfl rfl ?_
 rintro (c:bC) hpre
 refine ai (ai rfl (ai rfl rfl)) ?_
 obtain ⟨hst,htr⟩:=hpre
 refine ah (p:=c.act<1) (av (by omega)) (fun h1=>?_) (fun h1=>?_)
 ·refine ai (ai (fun _=>trivial) ?_) trivial
  show aC _ (iP (cK c))
  rw[cK,if_pos (.inl h1)]
  exact rfl
 refine ah (p:=6<c.act) (av (by omega)) (fun h2=>?_) (fun h2=>?_)
 ·refine ai (ai (fun _=>trivial) ?_) trivial
  show aC _ (iP (cK c))
  rw[cK,if_pos (.inr h2)]
  exact rfl
 have e0:¬(c.act<1∨6<c.act):=fun h=>h.elim h1 h2
 refine ei _ (ai (ak8) (ei (c.ins) (ei [] (ai (a4 (ai (fun _=>Or.inl rfl) (ai nof (Or.inl rfl)))) (ai (by exact (ai rfl (fun _ _=>rfl))) (ai trivial (ai (trivial) ?_)))))))
 refine aF (p:=gN c.ins=0) (bZ (by omega)) (fun h3=>?_) (fun h3=>?_)
 ·refine ai (ai (fun _=>trivial) ?_) trivial
  show aC _ (iP (cK c))
  rw[cK,if_neg e0,if_pos h3]
  exact rfl
 have h16:=vR h3
 have e1:¬¬gN c.ins=0:=fun h=>h h3
 refine ah (p:=c.sts.length=0) (gD (by omega)) (fun h4=>?_) (fun h4=>?_)
 ·refine ai (ai (fun _=>trivial) ?_) trivial
  show aC _ (iP (cK c))
  rw[cK,if_neg e0,if_neg e1,if_pos h4]
  exact rfl
 refine ah (p:=24<c.sts.length) (av (by omega)) (fun h5=>?_) (fun h5=>?_)
 ·refine ai (ai (fun _=>trivial) ?_) trivial
  show aC _ (iP (cK c))
  rw[cK,if_neg e0,if_neg e1,if_neg h4,if_pos (.inl h5)]
  exact rfl
 refine ah (p:=32<c.trs.length) (av (by omega)) (fun h6=>?_) (fun h6=>?_)
 ·refine ai (ai (fun _=>trivial) ?_) trivial
  show aC _ (iP (cK c))
  rw[cK,if_neg e0,if_neg e1,if_neg h4,if_pos (.inr h6)]
  exact rfl
 have e2:¬(24<c.sts.length∨32<c.trs.length):=fun h=>h.elim h5 h6
 refine ei (.seq [0,1,2,3,4,5]) (ai (by kernel_rfl) ?_)
 refine ei _ (ai (aiK) (ei ((c,c.sts)) (ei [] (ai (a4 (ai (fun _=>Or.inl rfl) (ai nof (Or.inl rfl)))) (ai (by exact (ai (ai rfl (fun _ _=>rfl)) (ai rfl rfl))) (ai trivial (ai (⟨by show c.sts.length≤1000000;omega,hst⟩) ?_)))))))
 refine aF (p:=dW (fun k=>jr c.act (c.sts.getD k st0)) c.sts.length=0) (bZ (by dsimp only;omega)) (fun h7=>?_) (fun h7=>?_)
 ·refine ai (ai (fun _=>trivial) ?_) trivial
  show aC _ (iP (cK c))
  rw[cK,if_neg e0,if_neg e1,if_neg h4,if_neg e2,if_pos h7]
  exact rfl
 have hsm:abK c:=⟨by omega,by omega,by omega,by omega⟩
 refine ei _ (ai (aiY) (ei ((c,c.trs)) (ei [] (ai (a4 (ai (fun _=>Or.inl rfl) (ai nof (Or.inl rfl)))) (ai (by exact (ai (ai rfl (fun _ _=>rfl)) (ai rfl rfl))) (ai trivial (ai (⟨by show c.trs.length≤1000000;omega,hsm,htr⟩) ?_)))))))
 refine ai (ai (fun _=>trivial) ?_) trivial
 show aC _ (iP (cK c))
 rw[cK,if_neg e0,if_neg e1,if_neg h4,if_neg e2,if_neg (fun h=>h h7)]
 exact rfl
abbrev dec (n : Nat) : List UInt8 := Lib.decDigits n
def adH (n:Nat):List UInt8:=if n=0 then [] else dec n
theorem ajS (n:Nat):adH n=if n=0 then [] else adH (n / 10)++[UInt8.ofNat (48+n % 10)]:=by
 unfold adH
 by_cases h:n=0
 ·rw[if_pos h,if_pos h]
 ·rw[if_neg h,if_neg h]
  unfold dec
  rw[Lib.decDigits]
  by_cases h2:n<10
  ·rw[dif_pos h2,if_pos (by omega),arl h2];rfl
  ·rw[dif_neg h2,if_neg (by omega)]
theorem aog (s:List UInt8) (l h:Nat):(strOf s).extract l h=strOf ((s.take h).drop l):=by
 apply ByteArray.ext
 simp only[strOf,ByteArray.data_extract]
 apply Array.ext'
 simp[List.drop_take]
theorem wY:aM Tryz.prog 79 (bM (fun n:Nat=>[iA n]) (fun n=>n<100) (fun n=>sP (dec n))):=
 agy (aec (α:=Nat) Tryz.func79 rfl rfl (vals:=fun n=>[.int .i64 n]) (pre:=fun n=>n<100) (ret:=fun n=>.string (strOf (dec n))) (fun _ _=>rfl)
  fun n hn w=>(Tryz.strconv_Itoa_small n hn w).mono fun e w' h=>by
   obtain ⟨h1,h2⟩:=h
   subst h2
   exact ⟨h1,RowKit.Below.refl _ _⟩) id
  (fun _ _=>rfl) (fun _ _=>rfl) (fun _ _=>rfl) (fun _ _=>rfl) (fun _ h=>h)
def adF (i:Nat) (d:UInt8):List UInt8:=[UInt8.ofNat (97+i),d]
def iV:Nat→List (List UInt8)
 | 0=>[]
 | n+1=>iV n++[adF n 48,adF n 49]
theorem aaB:∀n,(iV n).length=2*n
 | 0=>rfl
 | n+1=>by rw[iV,aac,aaB n];simp;omega
def yN (k:Nat):List UInt8:=121 :: dec k
def mH:Nat→List (List UInt8)
 | 0=>[]
 | n+1=>mH n++[yN n]
theorem aaz:∀n,(mH n).length=n
 | 0=>rfl
 | n+1=>by rw[mH,aac,aaz n];rfl
def dH (c:bC):List (List UInt8):=iV c.act.toNat++c.ins++mH c.sts.length
theorem aaG {a b:List (List UInt8)} {n:Nat} {f g:Nat→List PV} (hn:n=a.length) (hf:∀k,k<a.length→f k=[sP (a.getD k [])]) (hg:∀k,k<b.length→g k=[sP (b.getD k [])]):∀k,k<(a++b).length→bJ n f g k=[sP ((a++b).getD k [])]:=by
 intro k hk
 subst hn
 unfold bJ
 by_cases h:k<a.length
 ·rw[if_pos h,hf k h,aaM,aaM,aed h]
 ·have hb:k-a.length<b.length:=by rw[aac] at hk;omega
  rw[if_neg h,hg _ hb,aaM,aaM,ae5 (by omega)]
def ssR (l:List (List UInt8)):LV:=.rw 9 1 l.length (fun k=>[sP (l.getD k [])])
def abc:List UInt8:=[97,98,99,100,101,102]
theorem aoZ {d:Nat} (h:d<6):(strOf abc).extract ((d:Int)).toNat (((d+1:Nat):Int)).toNat=strOf [UInt8.ofNat (97+d)]:=by
 rw[aq1,aq1,aog]
 have:∀d:Fin 6,(abc.take (d.1+1)).drop d.1=[UInt8.ofNat (97+d.1)]:=by decide
 exact congrArg strOf (this ⟨d,h⟩)
def agr (c:bC):Prop:=1≤c.act∧c.act≤6∧c.ins.length≤1000∧c.sts.length≤99
def aqJ:Spec:=iq (fun c:bC=>[kE c]) agr (fun c=>xM (dH c))
theorem ana {x y:List UInt8} {a b:ByteArray} (ha:a=strOf x) (hb:b=strOf y):∀k,k<[x,y].length→bf 1 [.val (.string a),.val (.string b)] k=[sP ([x,y].getD k [])]:=by
 intro k hk
 have hk:k<2:=hk
 subst ha;subst hb
 match k,hk with
 | 0,_=>rfl
 | 1,_=>rfl
theorem ahW {x:List UInt8} {a:ByteArray} (ha:a=strOf x):∀k,k<[x].length→bf 1 [.val (.string a)] k=[sP ([x].getD k [])]:=by
 intro k hk
 have hk:k<1:=hk
 subst ha
 obtain rfl:k=0:=by omega
 rfl
theorem aJ {l:List PV} (n:Nat) (h:l.length=n):∀k,k<n→(bf 1 l k).length=1:=by
 intro k hk
 subst h
 induction l generalizing k with
 | nil=>simp at hk
 | cons d l ih=>
  cases k with
  | zero=>rfl
  | succ k=>
   have h1:=ih k (by simpa using hk)
   show (bf 1 (d :: l) (k+1)).length=1
   have:bf 1 (d :: l) (k+1)=bf 1 l k:=by
    unfold bf
    rw[amR,amR];rfl
   rw[this];exact h1
theorem ae0 {n:Nat} (h:n≤10000):n≤maxLen∧n*16≤140737488355328:=⟨by unfold maxLen;omega,by omega⟩
theorem apN:aM Tryz.prog 76 aqJ:=by
 refine aW (Tb:=tab) mixed aB Tryz.func76 rfl rfl ?_
 rintro (c:bC) hpre
 refine ai (ai rfl (ai rfl rfl)) ?_
 obtain ⟨h1,h2,h3,h4⟩:=hpre
 have h1:1≤c.act:=h1
 have h2:c.act≤6:=h2
 have h3:c.ins.length≤1000:=h3
 have h4:c.sts.length≤99:=h4
 refine ei (bI.inv { X:=Nat,up:=fun i=>[(9,.s (iA i)),(3,ssR (iV i))],uo:=fun i=>[],inv:=fun i=>i≤c.act.toNat∧(True),meas:=fun i=>c.act.toNat-i,x0:=0 }) ?_
 refine ai (ai (ai (by exact (a4 (ai rfl rfl))) (ai (by exact (ai (ai (ai (fun _=>rfl) (iE (by simp only[zz,reduceCtorEq];rfl))) rfl) rfl)) (by exact trivial))) rfl) (ai (ai (aef _) ?_) ?_)
 ·trivial
 intro (i:Nat) ⟨hi,_⟩
 have hln:=aaB i
 refine ah (p:=i<c.act.toNat) (by exact av (by omega)) (fun g1=>?_) (fun g1=>?_)
 ·have hw:IntKind.i64.wrap ((i:Int)+1)=((i+1:Nat):Int):=aN (by omega)
  have hx:(strOf abc).extract ((i:Int)).toNat (IntKind.i64.wrap ((i:Int)+1)).toNat=strOf [UInt8.ofNat (97+i)]:=by rw[hw];exact aoZ (by omega)
  have hxs:((((strOf abc).extract ((i:Int)).toNat (IntKind.i64.wrap ((i:Int)+1)).toNat).size+1:Nat):Int)≤9223372036854775807:=by rw[hx,eu];show ((1+1:Nat):Int)≤_;decide
  refine ai (ai (abJ _) (ai (by rw[hw];omega) (by rw[hw];show ((i+1:Nat):Int)≤6;omega))) ?_
  refine ai hxs (ai hxs ?_)
  refine ai (ae0 (by show (iV i).length+2≤10000;omega)) (ai (aJ 2 rfl) ?_)
  refine ei (i+1) (ai (ai rfl rfl) (ai (ai (ai rfl (ai (ai rfl rfl) (ai (ai rfl rfl) (ai (ai (ai (ai (fun _=>rfl) (aN (by omega))) rfl) (ai rfl (ai rfl (ai ?_ ?_)))) trivial)))) rfl) (ai (ai (iL (by omega)) trivial) (iM (by omega)))))
  ·show (iV i).length+2=(iV (i+1)).length
   rw[iV,aac];rfl
  ·exact fun k hk=>aaG (a:=iV i) (b:=[adF i 48,adF i 49]) (n:=(iV i).length) (f:=fun k=>[sP ((iV i).getD k [])]) rfl (fun _ _=>rfl) (ana (x:=adF i 48) (y:=adF i 49) (a:=(strOf abc).extract ((i:Int)).toNat (IntKind.i64.wrap ((i:Int)+1)).toNat++strOf [48]) (b:=(strOf abc).extract ((i:Int)).toNat (IntKind.i64.wrap ((i:Int)+1)).toNat++strOf [49]) (by rw[hx,dU];rfl) (by rw[hx,dU];rfl)) k (by rw[aac];exact hk)
 ·obtain rfl:i=c.act.toNat:=by omega
  refine ai (ae0 (by show (iV c.act.toNat).length+c.ins.length≤10000;omega)) (ai (fun _ _=>rfl) ?_)
  refine ei (bI.inv { X:=Nat,up:=fun j=>[(31,.s (iA j)),(3,ssR (iV c.act.toNat++c.ins++mH j))],uo:=fun j=>[],inv:=fun j=>j≤c.sts.length∧(True),meas:=fun j=>c.sts.length-j,x0:=0 }) ?_
  refine ai (ai (ai (by exact (a4 (ai rfl rfl))) (ai ?_ ?_)) rfl) (ai (ai (aef _) ?_) ?_)
  ·refine (ai (ai (ai (fun _=>rfl) (iE (by simp only[zz,reduceCtorEq];rfl))) rfl) (ai rfl (ai rfl (ai ?_ ?_))))
   ·show (iV c.act.toNat).length+c.ins.length=(iV c.act.toNat++c.ins++mH 0).length
    rw[aac,aac];rfl
   ·intro k hk
    have:=aaG (a:=iV c.act.toNat) (b:=c.ins) (n:=(iV c.act.toNat).length) (f:=fun k=>[sP ((iV c.act.toNat).getD k [])]) (g:=fun k=>[sP (c.ins.getD k [])]) rfl (fun _ _=>rfl) (fun _ _=>rfl) k (by rw[aac];exact hk)
    rw[this]
    show _=[sP ((iV c.act.toNat++c.ins++[]).getD k [])]
    rw[apD]
  ·exact trivial
  ·trivial
  intro (j:Nat) ⟨hj,_⟩
  have hlj:=aaz j
  have hla:(iV c.act.toNat++c.ins++mH j).length=2*c.act.toNat+c.ins.length+j:=by rw[aac,aac,hln,hlj]
  refine ah (p:=j<c.sts.length) (av (by omega)) (fun g2=>?_) (fun g2=>?_)
  ·refine ei _ (ai (wY) (ei (j) (ei [] (ai (a4 (ai (fun _=>Or.inl rfl) (ai nof (Or.inl rfl)))) (ai (by exact rfl) (ai trivial (ai ((by show j<100;omega)) ?_)))))))
   have hd:(dec j).length≤2:=by
    have:∀j:Fin 100,(Lib.decDigits j.1).length≤2:=by decide +kernel
    exact this ⟨j,by omega⟩
   refine ai (by show (((strOf [121]).size+(strOf (dec j)).size:Nat):Int)≤9223372036854775807;rw[eu,eu,List.length_singleton];omega) ?_
   refine ai (ae0 (by show (iV c.act.toNat++c.ins++mH j).length+1≤10000;omega)) (ai (aJ 1 rfl) ?_)
   refine ei (j+1) (ai (ai rfl rfl) (ai (ai (ai rfl (ai (ai rfl rfl) (ai (ai rfl rfl) (ai (ai (ai (ai (fun _=>rfl) (aN (by omega))) rfl) (ai rfl (ai rfl (ai ?_ ?_)))) trivial)))) rfl) (ai (ai (iL (by omega)) trivial) (iM (by omega)))))
   ·show (iV c.act.toNat++c.ins++mH j).length+1=(iV c.act.toNat++c.ins++mH (j+1)).length
    rw[mH,aac,aac,aac,aac,aac];rfl
   ·have e:iV c.act.toNat++c.ins++mH (j+1)=(iV c.act.toNat++c.ins++mH j)++[yN j]:=by rw[mH];simp
    have:=aaG (a:=iV c.act.toNat++c.ins++mH j) (b:=[yN j]) rfl (fun _ _=>rfl) (ahW (x:=yN j) (a:=strOf [121]++strOf (dec j)) (by rw[dU];rfl))
    rw[←e] at this
    intro k hk
    exact this k (by rw[e,aac];exact hk)
  ·obtain rfl:j=c.sts.length:=by omega
   refine ai (ai (fun h=>absurd (show false=true from h) (by decide)) ?_) trivial
   show aC _ (xM (dH c))
   rw[dH]
   exact (ai rfl (fun _ _=>rfl))
theorem kG {c:bC} (h:cK c=0):(1≤c.act∧c.act≤6)∧gN c.ins=0∧(0<c.sts.length∧c.sts.length≤24)∧c.trs.length≤32∧(∀k,k<c.sts.length→jr c.act (c.sts.getD k st0)=0)∧∀k,k<c.trs.length→lQ c (c.trs.getD k ak)=0:=by
 unfold cK at h
 split at h
 ·cases h
 split at h
 ·rename_i h1 h2;exact absurd h h2
 split at h
 ·cases h
 split at h
 ·cases h
 split at h
 ·rename_i h1;exact absurd h h1
 rename_i h1 h2 h3 h4 h5
 refine ⟨by omega,aoJ.1 h2,by omega,by omega,fun k hk=>l9 (aoJ.1 h5) k hk,fun k hk=>l9 h k hk⟩
theorem als {c:bC} (h:cK c=0):agr c:=by
 obtain ⟨h1,h2,h3,h4,-⟩:=kG h
 have:=vR h2
 exact ⟨h1.1,h1.2,by omega,by omega⟩
def fM (m:List Bool) (k:Nat):PV:=bP (m.getD k false)
def uy (m:List Bool):PV:=.arr 24 (fM m)
def uf (m:List Bool):SV:=.p false (uy m)
theorem ng (g:Nat→PV):∀(n i k:Nat),k<n→(lu g i n)[k]?=some (g (i+k))
 | 0,_,_,h=>by omega
 | n+1,i,0,_=>rfl
 | n+1,i,k+1,h=>by
  show (lu g (i+1) n)[k]?=_
  rw[ng g n (i+1) k (by omega),show i+1+k=i+(k+1) by omega]
theorem amI (m:List Bool) {k:Nat} (h:k<24):(dL 24 (fM m))[k]?=some (fM m k):=by
 unfold dL;rw[ng _ _ _ _ h,afY]
def iT (n:Nat) (l:List Int):Prop:=∀k∈l,0≤k∧k<(n:Int)
theorem vE {n:Nat} {l:List Int} (h:iT n l) {k:Nat} (hk:k<l.length):0≤l.getD k 0∧l.getD k 0<(n:Int):=h _ (aee (bT 0 hk))
def jw (m:List Bool) (k:Int):Bool:=m.getD k.toNat false
def allM (m:List Bool) (l:List Int):Bool:=l.all (jw m)
def apq (m:List Bool):PV:=.fn 161 [.pt (dL 24 (fM m)) 0]
theorem aok:aM Tryz.prog 161 (bM (fun a:List Bool×Int=>[iA a.2,.p false (.pt (dL 24 (fM a.1)) 0)]) (fun a=>0≤a.2∧a.2<24) (fun a=>bP (!jw a.1 a.2))):=by
 refine aW (Tb:=tab) mixed aB Tryz.func161 rfl rfl ?_
 rintro (a:List Bool×Int) hpre
 refine ai (ai rfl (ai rfl rfl)) ?_
 have h1:0≤a.2:=hpre.1
 have h2:a.2<24:=hpre.2
 refine ai ⟨h1,h2⟩ ?_
 refine ei (fM a.1 a.2.toNat) (ai (by rw[afY];exact amI a.1 (by omega)) ?_)
 refine ai (ai (fun _=>trivial) ?_) trivial
 exact rfl
def aqd:Spec:=bM (fun a:List Bool×List Int=>[isA a.2,.p false (apq a.1)]) (fun a=>iT 24 a.2∧a.2.length≤1000000) (fun a=>iP (jC (fun k=>!jw a.1 k) a.2))
theorem anJ:aM Tryz.prog 106 aqd:=by
 refine aW (Tb:=tab) mixed aB Tryz.func106 rfl rfl ?_
 rintro (a:List Bool×List Int) hpre
 refine ai (ai rfl (ai rfl rfl)) ?_
 obtain ⟨hx,hl⟩:=hpre
 have hl:a.2.length≤1000000:=hl
 refine ei (bI.inv { X:=Nat,up:=fun k=>[(8,.s (iA k))],uo:=fun k=>[],inv:=fun k=>k≤a.2.length∧(∀y∈a.2.take k,(!jw a.1 y)=false),meas:=fun k=>a.2.length-k,x0:=0 }) ?_
 refine ai (ai (ai (by exact (a4 (ai rfl rfl))) (ai (by exact (ai (ai (fun _=>rfl) (iE (by simp only[zz,reduceCtorEq];rfl))) rfl)) (by exact trivial))) rfl) (ai (ai (aef _) ?_) ?_)
 ·exact fun y hy=>absurd hy (by simp)
 intro (k:Nat) ⟨hk,hall⟩
 refine ah (p:=k<a.2.length) (av (by omega)) (fun h1=>?_) (fun h1=>?_)
 ·refine ai (ai (abJ _) (iN (n:=a.2.length) (by omega))) (ai rfl ?_)
  refine ei _ (ai (aok) (ei ((a.1,a.2.getD k 0)) (ei [] (ai (a4 (ai (fun _=>Or.inl rfl) (ai nof (Or.inl rfl)))) (ai (by exact (ai (iE (by simp only[zz,reduceCtorEq])) (ai rfl rfl))) (ai trivial (ai (vE hx h1) ?_)))))))
  refine bE (b:=!jw a.1 (a.2.getD k 0)) rfl (fun h2=>?_) (fun h2=>?_)
  ·refine ai (ai (fun _=>trivial) ?_) trivial
   show aC _ (iP (jC (fun k=>!jw a.1 k) a.2))
   rw[rO (d:=0) h1 h2 hall]
   exact rfl
  refine ei (k+1) (ai (ai rfl rfl) (ai (ai (ai rfl (ai (ai rfl rfl) (ai (ai rfl rfl) (ai (ai (ai (fun _=>rfl) (aN (by omega))) rfl) trivial)))) rfl) (ai (ai (iL (by omega)) ?_) (iM (by omega)))))
  intro y hy
  rw[aX 0 h1] at hy
  rcases ahq.1 hy with hy | hy
  ·exact hall y hy
  ·simp only[agL] at hy;subst hy;exact h2
 ·obtain rfl:k=a.2.length:=by omega
  rw[afz] at hall
  refine ai (ai (fun _=>trivial) ?_) trivial
  show aC _ (iP (jC (fun k=>!jw a.1 k) a.2))
  rw[vC hall]
  exact rfl
theorem an0:aM Tryz.prog 38 (bM (fun a:List Bool×List Int=>[isA a.2,.p false (apq a.1)]) (fun a=>iT 24 a.2∧a.2.length≤1000000) (fun a=>bP (a.2.any fun k=>!jw a.1 k))):=by
 refine aW (Tb:=tab) mixed aB Tryz.func38 rfl rfl ?_
 rintro (a:List Bool×List Int) hpre
 refine ai (ai rfl (ai rfl rfl)) ?_
 refine ei _ (ai (anJ) (ei (a) (ei [] (ai (a4 (ai (fun _=>Or.inl rfl) (ai nof (Or.inl rfl)))) (ai (by exact (ai (ai rfl (fun _ _=>rfl)) (ai rfl rfl))) (ai trivial (ai (hpre) ?_)))))))
 refine ai (ai (fun _=>trivial) ?_) trivial
 show aC _ (bP (a.2.any fun k=>!jw a.1 k))
 rw[(tK (fun k=>!jw a.1 k) a.2).symm]
 exact rfl
theorem aoK:aM Tryz.prog 114 (bM (fun a:List Bool×List Int=>[uf a.1,isA a.2]) (fun a=>iT 24 a.2∧a.2.length≤1000000) (fun a=>bP (allM a.1 a.2))):=by
 refine iZ [3000006] ?_
 refine aW (Tb:=tab) mixed aB Tryz.func114 rfl rfl ?_
 rintro (a:List Bool×List Int) hpre
 refine ai (ai rfl (ai rfl rfl)) ?_
 refine ei _ (ai (an0) (ei (a) (ei [] (ai (a4 (ai (fun _=>Or.inl rfl) (ai nof (Or.inl rfl)))) (ai (by exact (ai (ai rfl (fun _ _=>rfl)) (ai rfl rfl))) (ai trivial (ai (hpre) ?_)))))))
 refine ai (ai (fun _=>trivial) ?_) trivial
 show aC _ (bP (allM a.1 a.2))
 rw[show allM a.1 a.2=!(a.2.any fun k=>!jw a.1 k) by unfold allM;simp[List.not_any_eq_all_not]]
 exact rfl
def cu (l:List Bool):List Bool:=l++List.replicate (24-l.length) false
theorem sN (l:List Bool) (k:Nat):(cu l).getD k false=l.getD k false:=by
 unfold cu
 rw[aaM,aaM]
 by_cases h:k<l.length
 ·rw[aed h]
 ·rw[ae5 (by omega),aqj (l:=l) (by omega),aq0]
  split<;>rfl
theorem nN {l:List Bool} (h:l.length≤24):(cu l).length=24:=by unfold cu;rw[aac,aq8];omega
theorem acw {n:Nat} {f g:Nat→List PV}:∀k,k<0+n→bJ 0 f g k=g k:=fun k hk=>by
 unfold bJ;rw[if_neg (akb _),arb]
def ap8:Spec:=bM (fun l:List (Bool)=>[bsA l]) (fun l=>l.length≤1000000) (fun l=>mI l)
theorem anp:aM Tryz.prog 40 ap8:=by
 refine aW (Tb:=tab) mixed aB Tryz.func40 rfl rfl ?_
 rintro (l:List (Bool)) hpre
 refine ai (ai rfl (ai rfl rfl)) ?_
 have hl:l.length≤1000000:=hpre
 intro b hb
 refine bg (fun h1=>?_) (fun h1=>?_)
 ·have h1:l.length=0:=hb h1
  refine ai (ai (fun _=>trivial) ?_) trivial
  show aC _ (mI l)
  rw[amY.1 h1]
  exact rfl
 ·refine ai (mxL (n:=0+l.length) (by omega) (by decide)) (ai (fun _ _=>rfl) ?_)
  refine ai (ai (fun _ k hk=>by rw[acw k hk];rfl) ?_) trivial
  refine (ai ?_ (fun _ _=>rfl))
  exact afY _
def aqw:Spec:=bM (fun a:bC×List Bool=>[kE a.1,uf a.2]) (fun a=>a.1.sts.length≤24∧a.2.length=24) (fun a=>mI (a.2.take a.1.sts.length))
theorem ahX:aM Tryz.prog 98 aqw:=by
 refine aW (Tb:=tab) mixed aB Tryz.func98 rfl rfl ?_
 rintro (a:bC×List Bool) hpre
 refine ai (ai rfl (ai rfl rfl)) ?_
 obtain ⟨h1,h2⟩:=hpre
 have h1:a.1.sts.length≤24:=h1
 have h2:a.2.length=24:=h2
 refine ai (ai (by decide) (ai (abJ _) (by show (a.1.sts.length:Int)≤24;omega))) ?_
 have htl:(a.2.take a.1.sts.length).length=a.1.sts.length:=by rw[ahR];omega
 refine ei _ (ai (anp) (ei (a.2.take a.1.sts.length) (ei [] (ai (ai rfl (ai rfl (ai rfl (ai rfl (ai (fun _=>Or.inl rfl) (ai (fun _=>ai rfl rfl) (Or.inl rfl))))))) (ai ?_ (ai (by exact trivial) (ai ((by show (a.2.take a.1.sts.length).length≤1000000;omega)) ?_)))))))
 ·refine (ai rfl (ai ?_ ?_))
  ·show ((a.1.sts.length:Int)).toNat-(0:Int).toNat=(a.2.take a.1.sts.length).length
   rw[htl];simp
  ·intro k hk
   have hk:k<((a.1.sts.length:Int)).toNat-(0:Int).toNat:=hk
   have hk:k<a.1.sts.length:=by simpa using hk
   show [bP (a.2.getD ((0:Int).toNat+k) false)]=[bP ((a.2.take a.1.sts.length).getD k false)]
   rw[show (0:Int).toNat+k=k by simp,aaM,aaM,ah7,if_pos hk]
 refine ai (ai (fun _=>trivial) ?_) trivial
 exact (ai rfl (fun _ _=>rfl))
def isR (l:List Int):LV:=.rw 3 1 l.length (fun k=>[iP (l.getD k 0)])
theorem ah4 {a b:List Int} {n:Nat} {f g:Nat→List PV} (hn:n=a.length) (hf:∀k,k<a.length→f k=[iP (a.getD k 0)]) (hg:∀k,k<b.length→g k=[iP (b.getD k 0)]):∀k,k<(a++b).length→bJ n f g k=[iP ((a++b).getD k 0)]:=by
 intro k hk
 subst hn
 unfold bJ
 by_cases h:k<a.length
 ·rw[if_pos h,hf k h,aaM,aaM,aed h]
 ·have hb:k-a.length<b.length:=by rw[aac] at hk;omega
  rw[if_neg h,hg _ hb,aaM,aaM,ae5 (by omega)]
theorem aay {n:Nat} {l:List Int} (h:kR n l=0) (hn:n≤24):iT 24 l∧iT n l∧0<l.length:=by
 unfold kR at h
 split at h
 ·cases h
 ·rename_i h0
  have h1:=l9 h
  have:iT n l:=by
   intro k hk
   obtain ⟨i,hi,rfl⟩:=aop hk
   have h2:=h1 i hi
   unfold vv at h2
   have hg:l.getD i 0=l[i]:=by rw[aaM,aa8 hi];rfl
   rw[hg] at h2
   split at h2
   ·cases h2
   ·omega
  exact ⟨fun k hk=>by have:=this k hk;omega,this,by omega⟩
theorem ant {c:bC} {t:kr} (h:lQ c t=0) (hn:c.sts.length≤24):(iT 24 t.fr∧iT c.sts.length t.fr)∧(iT 24 t.to∧iT c.sts.length t.to)∧gQ t.wh (um c)=0:=by
 unfold lQ at h
 split at h
 ·rename_i h1;exact absurd h h1
 rename_i h1
 split at h
 ·rename_i h2;exact absurd h h2
 rename_i h2
 have g1:=aay (aoJ.1 h1) hn
 have g2:=aay (aoJ.1 h2) hn
 exact ⟨⟨g1.1,g1.2.1⟩,⟨g2.1,g2.2.1⟩,h⟩
theorem oD {c:bC} (h:cK c=0) {i:Nat} (hi:i<c.trs.length):(iT 24 (c.trs.getD i ak).fr∧iT c.sts.length (c.trs.getD i ak).fr)∧(iT 24 (c.trs.getD i ak).to∧iT c.sts.length (c.trs.getD i ak).to)∧gQ (c.trs.getD i ak).wh (um c)=0:=by
 obtain ⟨_,_,h3,_,_,h6⟩:=kG h
 exact ant (h6 i hi) h3.2
theorem adw {c:bC} (h:lF c) {i:Nat} (hi:i<c.trs.length):ajv (c.trs.getD i ak):=h.2 _ (aee (bT ak hi))
theorem amw (a:List Bool) (k:Int):jw (cu a) k=jw a k:=sN a k.toNat
theorem amt (a:List Bool) (l:List Int):allM (cu a) l=allM a l:=by
 unfold allM;rw[show jw (cu a)=jw a from funext (amw a)]
def eZ (m:List Bool) (l:List Int) (b:Bool):List Bool:=l.foldl (fun m k=>m.set k.toNat b) m
theorem iO (b:Bool):∀(l:List Int) (m:List Bool),(eZ m l b).length=m.length
 | [],_=>rfl
 | k :: l,m=>by
  show (eZ (m.set k.toNat b) l b).length=_
  rw[iO b l,ars]
theorem wP (m:List Bool) (l:List Int) (k:Int) (b:Bool):eZ m (l++[k]) b=(eZ m l b).set k.toNat b:=by unfold eZ;rw[ari];rfl
theorem aio {m:List Bool} (hm:m.length=24) {j:Nat} (hj:j<24) (b:Bool) (k:Nat):pF (fM m) j (bP b) k=fM (m.set j b) k:=by
 unfold pF fM
 rw[aaM,aaM,aru]
 by_cases h:k=j
 ·rw[if_pos h,if_pos h.symm,if_pos (by omega)];rfl
 ·rw[if_neg h,if_neg (fun e=>h e.symm)]
def mR (m:List Bool) (t:kr):List Bool:=eZ (eZ m t.fr false) t.to true
def bn (c:bC) (m:List Bool) (i:Nat):List Bool×Bool:=if allM m (c.trs.getD i ak).fr then (mR m (c.trs.getD i ak),true) else (m,false)
def mkO (m:List Bool):Ob:=.arr 117 24 (fM m)
def aqV:Spec:=iq (fun a:bC×List Bool×Nat=>[kE a.1,uf a.2.1,iA a.2.2]) (fun a=>cK a.1=0∧lF a.1∧a.2.1.length=24∧a.2.2<a.1.trs.length) (fun a=>.tup [uy (bn a.1 a.2.1 a.2.2).1,bP (bn a.1 a.2.1 a.2.2).2])
theorem aj9:aM Tryz.prog 61 aqV:=by
 refine aW (Tb:=tab) mixed aB Tryz.func61 rfl rfl ?_
 rintro ⟨c,m,i⟩ hpre
 refine ai (ai rfl (ai rfl rfl)) ?_
 obtain ⟨hc,ho,hm,hi⟩:=hpre
 have hc:cK c=0:=hc
 have ho:lF c:=ho
 have hm:m.length=24:=hm
 have hi:i<c.trs.length:=hi
 obtain ⟨g1,g2,g3⟩:=oD hc hi
 have hto:=adw ho hi
 refine ai (ai (abJ _) (iN (n:=c.trs.length) (by omega))) (ai rfl ?_)
 refine ei _ (ai (aoK) (ei ((m,(c.trs.getD i ak).fr)) (ei [] (ai (a4 (ai (fun _=>Or.inl rfl) (ai nof (Or.inl rfl)))) (ai (by exact (ai (ai rfl (fun _ _=>rfl)) (ai rfl (fun _ _=>rfl)))) (ai trivial (ai (⟨g1.1,hto.1⟩) ?_)))))))
 refine bE (b:=!allM m (c.trs.getD i ak).fr) rfl (fun h2=>?_) (fun h2=>?_)
 ·have h2:allM m (c.trs.getD i ak).fr=false:=by simpa using h2
  have e:bn c m i=(m,false):=by unfold bn;rw[h2];rfl
  refine ai (ai (fun h=>absurd (show false=true from h) (by decide)) ?_) trivial
  show aC _ (.tup [uy (bn c m i).1,bP (bn c m i).2])
  rw[e]
  exact (ai (ai rfl (fun _ _=>rfl)) rfl)
 have h2:allM m (c.trs.getD i ak).fr=true:=by simpa using h2
 have e:bn c m i=(mR m (c.trs.getD i ak),true):=by unfold bn;rw[h2];rfl
 have hf:(c.trs.getD i ak).fr.length≤1000000:=hto.1
 have ht:(c.trs.getD i ak).to.length≤1000000:=hto.2.1
 refine ei (bI.inv { X:=Nat,up:=fun k=>[(27,.s (iA k))],uo:=fun k=>[⟨1,117,[.ob (mkO (eZ m ((c.trs.getD i ak).fr.take k) false))]⟩],inv:=fun k=>k≤(c.trs.getD i ak).fr.length∧(True),meas:=fun k=>(c.trs.getD i ak).fr.length-k,x0:=0 }) ?_
 refine ai (ai (ai (by exact (a4 (ai rfl rfl))) (ai ?_ ?_)) rfl) (ai (ai (aef _) ?_) ?_)
 ·exact (ai (ai (fun _=>rfl) (iE (by simp only[zz,reduceCtorEq];rfl))) rfl)
 ·exact (ai (ai rfl (ai rfl (fun _ _=>rfl))) trivial)
  skip
 ·trivial
 intro (k:Nat) ⟨hk,_⟩
 refine ah (p:=k<(c.trs.getD i ak).fr.length) (by simp only[zz,reduceCtorEq];omega) (fun h3=>?_) (fun h3=>?_)
 ·refine ai (ai (abJ _) (iN (n:=(c.trs.getD i ak).fr.length) (by omega))) (ai rfl ?_)
  have hx:=vE g1.1 h3
  have h24:((c.trs.getD i ak).fr.getD k 0).toNat<24:=by omega
  refine ai hx ?_
  refine ai (by show 0+((c.trs.getD i ak).fr.getD k 0).toNat*1<24;omega) ?_
  refine ei (k+1) (ai (ai rfl rfl) (ai (ai (ai rfl (ai (ai rfl rfl) (ai (ai rfl rfl) (ai (ai (ai (fun _=>rfl) (aN (by omega))) rfl) (ai (ai rfl (ai rfl ?_)) trivial))))) rfl) (ai (ai (iL (by omega)) trivial) (iM (by omega)))))
  intro q hq
  show pF (fM (eZ m ((c.trs.getD i ak).fr.take k) false)) (0+((c.trs.getD i ak).fr.getD k 0).toNat*1) (bP false) q=fM (eZ m ((c.trs.getD i ak).fr.take (k+1)) false) q
  rw[afY,amR,aio (by rw[iO];exact hm) h24,aX 0 h3,wP]
 ·obtain rfl:k=(c.trs.getD i ak).fr.length:=by omega
  rw[afz]
  refine ei (bI.inv { X:=Nat,up:=fun j=>[(37,.s (iA j))],uo:=fun j=>[⟨1,117,[.ob (mkO (eZ (eZ m (c.trs.getD i ak).fr false) ((c.trs.getD i ak).to.take j) true))]⟩],inv:=fun j=>j≤(c.trs.getD i ak).to.length∧(True),meas:=fun j=>(c.trs.getD i ak).to.length-j,x0:=0 }) ?_
  refine ai (ai (ai (by exact (a4 (ai rfl rfl))) (ai ?_ ?_)) rfl) (ai (ai (aef _) ?_) ?_)
  ·exact (ai (ai (fun _=>rfl) (iE (by simp only[zz,reduceCtorEq];rfl))) rfl)
  ·exact (ai (ai rfl (ai rfl (fun _ _=>rfl))) trivial)
   skip
  ·trivial
  intro (j:Nat) ⟨hk,_⟩
  refine ah (p:=j<(c.trs.getD i ak).to.length) (by simp only[zz,reduceCtorEq];omega) (fun h3=>?_) (fun h3=>?_)
  ·refine ai (ai (abJ _) (iN (n:=(c.trs.getD i ak).to.length) (by omega))) (ai rfl ?_)
   have hx:=vE g2.1 h3
   have h24:((c.trs.getD i ak).to.getD j 0).toNat<24:=by omega
   refine ai hx ?_
   refine ai (by show 0+((c.trs.getD i ak).to.getD j 0).toNat*1<24;omega) ?_
   refine ei (j+1) (ai (ai rfl rfl) (ai (ai (ai rfl (ai (ai rfl rfl) (ai (ai rfl rfl) (ai (ai (ai (fun _=>rfl) (aN (by omega))) rfl) (ai (ai rfl (ai rfl ?_)) trivial))))) rfl) (ai (ai (iL (by omega)) trivial) (iM (by omega)))))
   intro q hq
   show pF (fM (eZ (eZ m (c.trs.getD i ak).fr false) ((c.trs.getD i ak).to.take j) true)) (0+((c.trs.getD i ak).to.getD j 0).toNat*1) (bP true) q=fM (eZ (eZ m (c.trs.getD i ak).fr false) ((c.trs.getD i ak).to.take (j+1)) true) q
   rw[afY,amR,aio (by rw[iO];exact (iO _ _ _).trans hm) h24,aX 0 h3,wP]
  ·obtain rfl:j=(c.trs.getD i ak).to.length:=by omega
   rw[afz]
   refine ai (ai (fun h=>absurd (show false=true from h) (by decide)) ?_) trivial
   show aC _ (.tup [uy (bn c m i).1,bP (bn c m i).2])
   rw[e]
   exact (ai (ai rfl (fun _ _=>rfl)) rfl)
def aoz (m:List Bool) (t:kr):PV:=.fn 125 [.pt (dL 24 (fM m)) 0,.pt (trK t) 0]
def aoM (l:List Int) (k:Int):Bool:=l.any fun y=>k==y
def mM (m:List Bool) (t:kr) (k:Int):Bool:=jw m k&&!aoM t.fr k
theorem anV:aM Tryz.prog 125 (bM (fun a:(List Bool×kr)×Int=>[iA a.2,.p false (.pt (dL 24 (fM a.1.1)) 0),.p false (.pt (trK a.1.2) 0)]) (fun a=>(0≤a.2∧a.2<24)∧a.1.2.fr.length≤1000000) (fun a=>bP (mM a.1.1 a.1.2 a.2))):=by
 refine aW (Tb:=tab) mixed aB Tryz.func125 rfl rfl ?_
 rintro (a:(List Bool×kr)×Int) hpre
 refine ai (ai rfl (ai rfl rfl)) ?_
 obtain ⟨⟨h1,h2⟩,h3⟩:=hpre
 have h1:0≤a.2:=h1
 have h2:a.2<24:=h2
 refine ai ⟨h1,h2⟩ ?_
 refine ei (fM a.1.1 a.2.toNat) (ai (by rw[afY];exact amI a.1.1 (by omega)) ?_)
 refine bE (b:=jw a.1.1 a.2) rfl (fun h4=>?_) (fun h4=>?_)
 ·refine ei _ (ai (anA) (ei ((a.1.2.fr,a.2)) (ei [] (ai (a4 (ai (fun _=>Or.inl rfl) (ai nof (Or.inl rfl)))) (ai (by exact (ai (ai rfl (fun _ _=>rfl)) rfl)) (ai trivial (ai (h3) ?_)))))))
  refine ai (ai (fun _=>trivial) ?_) trivial
  show aC _ (bP (mM a.1.1 a.1.2 a.2))
  rw[show mM a.1.1 a.1.2 a.2=!aoM a.1.2.fr a.2 by unfold mM;rw[h4];rfl]
  exact rfl
 ·refine ai (ai (fun _=>trivial) ?_) trivial
  show aC _ (bP (mM a.1.1 a.1.2 a.2))
  rw[show mM a.1.1 a.1.2 a.2=false by unfold mM;rw[h4];rfl]
  exact rfl
def akL (a:(List Bool×kr)×List Int):Prop:=iT 24 a.2∧a.2.length≤1000000∧a.1.2.fr.length≤1000000
theorem anT:aM Tryz.prog 106 (bM (fun a:(List Bool×kr)×List Int=>[isA a.2,.p false (aoz a.1.1 a.1.2)]) akL (fun a=>iP (jC (mM a.1.1 a.1.2) a.2))):=by
 refine aW (Tb:=tab) mixed aB Tryz.func106 rfl rfl ?_
 rintro (a:(List Bool×kr)×List Int) hpre
 refine ai (ai rfl (ai rfl rfl)) ?_
 obtain ⟨hx,hl,hf⟩:=hpre
 have hl:a.2.length≤1000000:=hl
 refine ei (bI.inv { X:=Nat,up:=fun k=>[(8,.s (iA k))],uo:=fun k=>[],inv:=fun k=>k≤a.2.length∧(∀y∈a.2.take k,mM a.1.1 a.1.2 y=false),meas:=fun k=>a.2.length-k,x0:=0 }) ?_
 refine ai (ai (ai (by exact (a4 (ai rfl rfl))) (ai (by exact (ai (ai (fun _=>rfl) (iE (by simp only[zz,reduceCtorEq];rfl))) rfl)) (by exact trivial))) rfl) (ai (ai (aef _) ?_) ?_)
 ·exact fun y hy=>absurd hy (by simp)
 intro (k:Nat) ⟨hk,hall⟩
 refine ah (p:=k<a.2.length) (av (by omega)) (fun h1=>?_) (fun h1=>?_)
 ·refine ai (ai (abJ _) (iN (n:=a.2.length) (by omega))) (ai rfl ?_)
  refine ei _ (ai (anV) (ei ((a.1,a.2.getD k 0)) (ei [] (ai (a4 (ai (fun _=>Or.inl rfl) (ai nof (Or.inl rfl)))) (ai (by exact (ai (iE (by simp only[zz,reduceCtorEq])) (ai (ai rfl rfl) (ai rfl rfl)))) (ai trivial (ai (⟨vE hx h1,hf⟩) ?_)))))))
  refine bE (b:=mM a.1.1 a.1.2 (a.2.getD k 0)) rfl (fun h2=>?_) (fun h2=>?_)
  ·refine ai (ai (fun _=>trivial) ?_) trivial
   show aC _ (iP (jC (mM a.1.1 a.1.2) a.2))
   rw[rO (d:=0) h1 h2 hall]
   exact rfl
  refine ei (k+1) (ai (ai rfl rfl) (ai (ai (ai rfl (ai (ai rfl rfl) (ai (ai rfl rfl) (ai (ai (ai (fun _=>rfl) (aN (by omega))) rfl) trivial)))) rfl) (ai (ai (iL (by omega)) ?_) (iM (by omega)))))
  intro y hy
  rw[aX 0 h1] at hy
  rcases ahq.1 hy with hy | hy
  ·exact hall y hy
  ·simp only[agL] at hy;subst hy;exact h2
 ·obtain rfl:k=a.2.length:=by omega
  rw[afz] at hall
  refine ai (ai (fun _=>trivial) ?_) trivial
  show aC _ (iP (jC (mM a.1.1 a.1.2) a.2))
  rw[vC hall]
  exact rfl
theorem am8:aM Tryz.prog 38 (bM (fun a:(List Bool×kr)×List Int=>[isA a.2,.p false (aoz a.1.1 a.1.2)]) akL (fun a=>bP (a.2.any (mM a.1.1 a.1.2)))):=by
 refine aW (Tb:=tab) mixed aB Tryz.func38 rfl rfl ?_
 rintro (a:(List Bool×kr)×List Int) hpre
 refine ai (ai rfl (ai rfl rfl)) ?_
 refine ei _ (ai (anT) (ei (a) (ei [] (ai (a4 (ai (fun _=>Or.inl rfl) (ai nof (Or.inl rfl)))) (ai (by exact (ai (ai rfl (fun _ _=>rfl)) (ai rfl rfl))) (ai trivial (ai (hpre) ?_)))))))
 refine ai (ai (fun _=>trivial) ?_) trivial
 show aC _ (bP (a.2.any (mM a.1.1 a.1.2)))
 rw[(tK (mM a.1.1 a.1.2) a.2).symm]
 exact rfl
def zu (c:bC) (m:List Bool) (i:Nat):Bool:=(c.trs.getD i ak).to.any (mM m (c.trs.getD i ak))
def aqz:Spec:=bM (fun a:bC×List Bool×Nat=>[kE a.1,uf a.2.1,iA a.2.2]) (fun a=>cK a.1=0∧lF a.1∧a.2.2<a.1.trs.length) (fun a=>bP (zu a.1 a.2.1 a.2.2))
theorem aej:aM Tryz.prog 62 aqz:=by
 refine iZ [3000015] ?_
 refine aW (Tb:=tab) mixed aB Tryz.func62 rfl rfl ?_
 rintro ⟨c,m,i⟩ hpre
 refine ai (ai rfl (ai rfl rfl)) ?_
 obtain ⟨hc,ho,hi⟩:=hpre
 have hc:cK c=0:=hc
 have ho:lF c:=ho
 have hi:i<c.trs.length:=hi
 obtain ⟨g1,g2,g3⟩:=oD hc hi
 have hto:=adw ho hi
 refine ai (ai (abJ _) (iN (n:=c.trs.length) (by omega))) (ai rfl ?_)
 refine ei _ (ai (am8) (ei (((m,c.trs.getD i ak),(c.trs.getD i ak).to)) (ei [] (ai (a4 (ai (fun _=>Or.inl rfl) (ai nof (Or.inl rfl)))) (ai (by exact (ai (ai rfl (fun _ _=>rfl)) (ai rfl rfl))) (ai trivial (ai (⟨g2.1,hto.2.1,hto.1⟩) ?_)))))))
 refine ai (ai (fun _=>trivial) ?_) trivial
 exact rfl
theorem wz {α:Type} {l m:List α} {k:Nat} (d:α) (h1:k<l.length) (h2:k<m.length) (h:l.take k=m.take k) (e:l.getD k d=m.getD k d):l.take (k+1)=m.take (k+1):=by
 rw[aX d h1,aX d h2,h,e]
theorem aqT (x y:Sk):(!((x.1==y.1)&&((x.2==y.2)&&true)))=true↔¬x=y:=by
 rw[Bool.and_true,aon,←arU,afd,beq_iff_eq,beq_iff_eq]
 exact not_congr ⟨fun h=>Prod.ext h.1 h.2,fun h=>⟨congrArg Prod.fst h,congrArg Prod.snd h⟩⟩
def apy:Spec:=bM (fun a:List (Int)×List (Int)=>[isA a.1,isA a.2]) (fun a=>a.1.length≤1000000) (fun a=>bP (decide (a.1=a.2)))
theorem bF:aM Tryz.prog 16 apy:=by
 refine aW (Tb:=tab) mixed aB Tryz.func16 rfl rfl ?_
 rintro (a:List (Int)×List (Int)) hpre
 refine ai (ai rfl (ai rfl rfl)) ?_
 have hl:a.1.length≤1000000:=hpre
 refine aF (p:=a.1.length=a.2.length) (bZ (by omega)) (fun h1=>?_) (fun h1=>?_)
 ·refine ai (ai (fun _=>trivial) ?_) trivial
  show aC _ (bP (decide (a.1=a.2)))
  rw[decide_eq_false (fun h=>h1 (congrArg List.length h))]
  exact rfl
 refine ei (bI.inv { X:=Nat,up:=fun k=>[(5,.s (iA k))],uo:=fun k=>[],inv:=fun k=>k≤a.1.length∧(a.1.take k=a.2.take k),meas:=fun k=>a.1.length-k,x0:=0 }) ?_
 refine ai (ai (ai (by exact (a4 (ai rfl rfl))) (ai (by exact (ai (ai (fun _=>rfl) (iE (by simp only[zz,reduceCtorEq];rfl))) rfl)) (by exact trivial))) rfl) (ai (ai (aef _) ?_) ?_)
 ·rfl
 intro (k:Nat) ⟨hk,hall⟩
 refine ah (p:=k<a.1.length) (av (by omega)) (fun h4=>?_) (fun h4=>?_)
 ·refine ei (.seq [0,1,2,3,4,5,6,7,8]) (ai (by kernel_rfl) ?_)
  refine ai (ai (abJ _) (iN (n:=a.1.length) (by omega))) (ai rfl ?_)
  refine ai (ai (abJ _) (iN (n:=a.2.length) (by omega))) (ai rfl ?_)
  refine aF (p:=a.1.getD k 0=a.2.getD k 0) (by exact bne_iff_ne) (fun h5=>?_) (fun h5=>?_)
  ·refine ai (ai (fun _=>trivial) ?_) trivial
   show aC _ (bP (decide (a.1=a.2)))
   rw[decide_eq_false (fun h=>h5 (by rw[h]))]
   exact rfl
  refine ei (k+1) (ai (ai rfl rfl) (ai (ai (ai rfl (ai (ai rfl rfl) (ai (ai rfl rfl) (ai (ai (ai (fun _=>rfl) (aN (by omega))) rfl) trivial)))) rfl) (ai (ai (iL (by omega)) ?_) (iM (by omega)))))
  exact wz 0 h4 (by omega) hall h5
 ·obtain rfl:k=a.1.length:=by omega
  rw[afz,h1,afz] at hall
  refine ai (ai (fun _=>trivial) ?_) trivial
  show aC _ (bP (decide (a.1=a.2)))
  rw[decide_eq_true hall]
  exact rfl
def ajG:Spec:=bM (fun a:List (Bool)×List (Bool)=>[bsA a.1,bsA a.2]) (fun a=>a.1.length≤1000000) (fun a=>bP (decide (a.1=a.2)))
theorem alC:aM Tryz.prog 120 ajG:=by
 refine aW (Tb:=tab) mixed aB Tryz.func120 rfl rfl ?_
 rintro (a:List (Bool)×List (Bool)) hpre
 refine ai (ai rfl (ai rfl rfl)) ?_
 have hl:a.1.length≤1000000:=hpre
 refine aF (p:=a.1.length=a.2.length) (bZ (by omega)) (fun h1=>?_) (fun h1=>?_)
 ·refine ai (ai (fun _=>trivial) ?_) trivial
  show aC _ (bP (decide (a.1=a.2)))
  rw[decide_eq_false (fun h=>h1 (congrArg List.length h))]
  exact rfl
 refine ei (bI.inv { X:=Nat,up:=fun k=>[(5,.s (iA k))],uo:=fun k=>[],inv:=fun k=>k≤a.1.length∧(a.1.take k=a.2.take k),meas:=fun k=>a.1.length-k,x0:=0 }) ?_
 refine ai (ai (ai (by exact (a4 (ai rfl rfl))) (ai (by exact (ai (ai (fun _=>rfl) (iE (by simp only[zz,reduceCtorEq];rfl))) rfl)) (by exact trivial))) rfl) (ai (ai (aef _) ?_) ?_)
 ·rfl
 intro (k:Nat) ⟨hk,hall⟩
 refine ah (p:=k<a.1.length) (av (by omega)) (fun h4=>?_) (fun h4=>?_)
 ·refine ei (.seq [0,1,2,3,4,5,6,7,8]) (ai (by kernel_rfl) ?_)
  refine ai (ai (abJ _) (iN (n:=a.1.length) (by omega))) (ai rfl ?_)
  refine ai (ai (abJ _) (iN (n:=a.2.length) (by omega))) (ai rfl ?_)
  refine aF (p:=a.1.getD k false=a.2.getD k false) (by exact bne_iff_ne) (fun h5=>?_) (fun h5=>?_)
  ·refine ai (ai (fun _=>trivial) ?_) trivial
   show aC _ (bP (decide (a.1=a.2)))
   rw[decide_eq_false (fun h=>h5 (by rw[h]))]
   exact rfl
  refine ei (k+1) (ai (ai rfl rfl) (ai (ai (ai rfl (ai (ai rfl rfl) (ai (ai rfl rfl) (ai (ai (ai (fun _=>rfl) (aN (by omega))) rfl) trivial)))) rfl) (ai (ai (iL (by omega)) ?_) (iM (by omega)))))
  exact wz false h4 (by omega) hall h5
 ·obtain rfl:k=a.1.length:=by omega
  rw[afz,h1,afz] at hall
  refine ai (ai (fun _=>trivial) ?_) trivial
  show aC _ (bP (decide (a.1=a.2)))
  rw[decide_eq_true hall]
  exact rfl
def aoG:Spec:=bM (fun a:List (Sk)×List (Sk)=>[afm a.1,afm a.2]) (fun a=>a.1.length≤1000000) (fun a=>bP (decide (a.1=a.2)))
theorem alB:aM Tryz.prog 55 aoG:=by
 refine aW (Tb:=tab) mixed aB Tryz.func55 rfl rfl ?_
 rintro (a:List (Sk)×List (Sk)) hpre
 refine ai (ai rfl (ai rfl rfl)) ?_
 have hl:a.1.length≤1000000:=hpre
 refine aF (p:=a.1.length=a.2.length) (bZ (by omega)) (fun h1=>?_) (fun h1=>?_)
 ·refine ai (ai (fun _=>trivial) ?_) trivial
  show aC _ (bP (decide (a.1=a.2)))
  rw[decide_eq_false (fun h=>h1 (congrArg List.length h))]
  exact rfl
 refine ei (bI.inv { X:=Nat,up:=fun k=>[(5,.s (iA k))],uo:=fun k=>[],inv:=fun k=>k≤a.1.length∧(a.1.take k=a.2.take k),meas:=fun k=>a.1.length-k,x0:=0 }) ?_
 refine ai (ai (ai (by exact (a4 (ai rfl rfl))) (ai (by exact (ai (ai (fun _=>rfl) (iE (by simp only[zz,reduceCtorEq];rfl))) rfl)) (by exact trivial))) rfl) (ai (ai (aef _) ?_) ?_)
 ·rfl
 intro (k:Nat) ⟨hk,hall⟩
 refine ah (p:=k<a.1.length) (av (by omega)) (fun h4=>?_) (fun h4=>?_)
 ·refine ei (.seq [0,1,2,3,4,5,6,7,8]) (ai (by kernel_rfl) ?_)
  refine ai (ai (abJ _) (iN (n:=a.1.length) (by omega))) (ai rfl ?_)
  refine ai (ai (abJ _) (iN (n:=a.2.length) (by omega))) (ai rfl ?_)
  refine aF (p:=a.1.getD k aV=a.2.getD k aV) (by exact aqT _ _) (fun h5=>?_) (fun h5=>?_)
  ·refine ai (ai (fun _=>trivial) ?_) trivial
   show aC _ (bP (decide (a.1=a.2)))
   rw[decide_eq_false (fun h=>h5 (by rw[h]))]
   exact rfl
  refine ei (k+1) (ai (ai rfl rfl) (ai (ai (ai rfl (ai (ai rfl rfl) (ai (ai rfl rfl) (ai (ai (ai (fun _=>rfl) (aN (by omega))) rfl) trivial)))) rfl) (ai (ai (iL (by omega)) ?_) (iM (by omega)))))
  exact wz aV h4 (by omega) hall h5
 ·obtain rfl:k=a.1.length:=by omega
  rw[afz,h1,afz] at hall
  refine ai (ai (fun _=>trivial) ?_) trivial
  show aC _ (bP (decide (a.1=a.2)))
  rw[decide_eq_true hall]
  exact rfl
theorem al6:aM Tryz.prog 54 ajG:=by
 refine aW (Tb:=tab) mixed aB Tryz.func54 rfl rfl ?_
 rintro (a:List Bool×List Bool) hpre
 refine ai (ai rfl (ai rfl rfl)) ?_
 refine ei _ (ai (alC) (ei (a) (ei [] (ai (a4 (ai (fun _=>Or.inl rfl) (ai nof (Or.inl rfl)))) (ai (by exact (ai (ai rfl (fun _ _=>rfl)) (ai rfl (fun _ _=>rfl)))) (ai trivial (ai (hpre) ?_)))))))
 refine ai (ai (fun _=>trivial) ?_) trivial
 exact rfl
def bsR (l:List Bool):LV:=.rw 4 1 l.length (fun k=>[bP (l.getD k false)])
theorem am2 {m:List Bool} {j:Nat} (hj:j<m.length) (b:Bool):∀k,lJ (fun k=>[bP (m.getD k false)]) j 0 [bP b] k=[bP ((m.set j b).getD k false)]:=by
 intro k
 unfold lJ
 rw[aaM (l:=m.set j b),aru]
 by_cases h:k=j
 ·rw[if_pos h,if_pos h.symm,if_pos hj];rfl
 ·rw[if_neg h,if_neg (fun e=>h e.symm),←aaM]
structure gy where
 act:Int
 sts:List Stp
def sqK (s:gy):List PV:=[iP s.act,aiM s.sts]
def uW (s:gy):SV:=.p false (.agg (sqK s))
def lM (l:List Sk) (k:Nat):Int:=if (l.getD k aV).1<0∨6≤(l.getD k aV).1 then 2 else if 0<k∧(l.getD k aV).1=(l.getD (k-1) aV).1 then 7 else if 0<k∧(l.getD k aV).1<(l.getD (k-1) aV).1 then 9 else 0
def eP (x:Stp):Int:=if x.st.length=0 then 13 else if 6<x.st.length then 5 else if ¬dW (lM x.st) x.st.length=0 then dW (lM x.st) x.st.length else if x.wt<0∨1000000<x.wt then 2 else 0
def aiw (x:Int):Bool:=decide (0≤x)&&decide (x<6)
theorem vI {x:Int}:aiw x=true↔0≤x∧x<6:=by unfold aiw;rw[afd,decide_eq_true_iff,decide_eq_true_iff]
theorem adS:aM Tryz.prog 168 (bM (fun x:Int=>[iA x]) (fun _=>True) (fun x=>bP (decide (0≤x)&&decide (x<6)))):=by
 refine aW (Tb:=tab) mixed aB Tryz.func168 rfl rfl ?_
 rintro (x:Int) hpre
 refine ai (ai rfl (ai rfl rfl)) ?_
 refine ah (p:=0≤x) (fJ (by omega)) (fun h1=>?_) (fun h1=>?_)
 ·refine ai (ai (fun _=>trivial) ?_) trivial
  show aC _ (bP (decide (0≤x)&&decide (x<6)))
  rw[decide_eq_true h1,aql]
  exact rfl
 ·refine ai (ai (fun _=>trivial) ?_) trivial
  show aC _ (bP (decide (0≤x)&&decide (x<6)))
  rw[decide_eq_false h1,aqi]
  exact rfl
theorem ag4:aM Tryz.prog 194 (bM (fun x:Int=>[iA x]) (fun _=>True) (fun x=>bP (decide (0≤x)&&decide (x<6)))):=by
 refine aW (Tb:=tab) mixed aB Tryz.func194 rfl rfl ?_
 rintro (x:Int) hpre
 refine ai (ai rfl (ai rfl rfl)) ?_
 refine ah (p:=0≤x) (fJ (by omega)) (fun h1=>?_) (fun h1=>?_)
 ·refine ai (ai (fun _=>trivial) ?_) trivial
  show aC _ (bP (decide (0≤x)&&decide (x<6)))
  rw[decide_eq_true h1,aql]
  exact rfl
 ·refine ai (ai (fun _=>trivial) ?_) trivial
  show aC _ (bP (decide (0≤x)&&decide (x<6)))
  rw[decide_eq_false h1,aqi]
  exact rfl
theorem anZ:aM Tryz.prog 195 (bM (fun x:Int=>[iA x]) (fun _=>True) (fun x=>bP (decide (0≤x)&&decide (x≤1000000)))):=by
 refine aW (Tb:=tab) mixed aB Tryz.func195 rfl rfl ?_
 rintro (x:Int) hpre
 refine ai (ai rfl (ai rfl rfl)) ?_
 refine ah (p:=0≤x) (fJ (by omega)) (fun h1=>?_) (fun h1=>?_)
 ·refine ai (ai (fun _=>trivial) ?_) trivial
  show aC _ (bP (decide (0≤x)&&decide (x≤1000000)))
  rw[decide_eq_true h1,aql]
  exact rfl
 ·refine ai (ai (fun _=>trivial) ?_) trivial
  show aC _ (bP (decide (0≤x)&&decide (x≤1000000)))
  rw[decide_eq_false h1,aqi]
  exact rfl
def uh (l:List Sk) (k:Nat):Int:=if k=0 then -1 else (l.getD (k-1) aV).1
def aoY:Spec:=bM (fun x:Stp=>[stA x]) (fun _=>True) (fun x=>iP (eP x))
theorem apx:aM Tryz.prog 164 aoY:=by
 refine aW (Tb:=tab) mixed aB Tryz.func164 rfl rfl ?_
 rintro (x:Stp) hpre
 refine ai (ai rfl (ai rfl rfl)) ?_
 refine ah (p:=x.st.length=0) (gD (by omega)) (fun h1=>?_) (fun h1=>?_)
 ·refine ai (ai (fun _=>trivial) ?_) trivial
  show aC _ (iP (eP x))
  rw[eP,if_pos h1]
  exact rfl
 refine ah (p:=6<x.st.length) (av (by omega)) (fun h2=>?_) (fun h2=>?_)
 ·refine ai (ai (fun _=>trivial) ?_) trivial
  show aC _ (iP (eP x))
  rw[eP,if_neg h1,if_pos h2]
  exact rfl
 have hA:∀e,dW (lM x.st) x.st.length=e→¬e=0→eP x=e:=fun e h h0=>by unfold eP;rw[if_neg h1,if_neg h2,if_pos (by rw[h];exact h0),h]
 refine ei (bI.inv { X:=Nat,up:=fun k=>[(19,.s (iA k)),(4,.s (iA (uh x.st k)))],uo:=fun k=>[],inv:=fun k=>k≤x.st.length∧(∀j,j<k→lM x.st j=0),meas:=fun k=>x.st.length-k,x0:=0 }) ?_
 refine ai (ai (ai (by exact (a4 (ai rfl rfl))) (ai (by exact (ai (ai (ai (fun _=>rfl) (iE (by simp only[zz,reduceCtorEq];rfl))) rfl) (ai (ai (fun _=>rfl) (iE (by simp only[zz,reduceCtorEq];rfl))) rfl))) (by exact trivial))) rfl) (ai (ai (aef _) ?_) ?_)
 ·exact fun j hj=>absurd hj (akb _)
 intro (k:Nat) ⟨hk,hall⟩
 refine ah (p:=k<x.st.length) (av (by omega)) (fun h3=>?_) (fun h3=>?_)
 ·refine ai (ai (abJ _) (iN (n:=x.st.length) (by omega))) (ai rfl ?_)
  refine ei _ (ai (adS) (ei ((x.st.getD k aV).1) (ei [] (ai (a4 (ai (fun _=>Or.inl rfl) (ai nof (Or.inl rfl)))) (ai (by exact (iE (by simp only[zz,reduceCtorEq]))) (ai trivial (ai (trivial) ?_)))))))
  refine bE (b:=!aiw (x.st.getD k aV).1) rfl (fun h4=>?_) (fun h4=>?_)
  ·have h4:¬(0≤(x.st.getD k aV).1∧(x.st.getD k aV).1<6):=by rw[←vI];simpa using h4
   have e:lM x.st k=2:=by unfold lM;rw[if_pos (by omega)]
   refine ai (ai (fun _=>trivial) ?_) trivial
   show aC _ (iP (eP x))
   rw[hA 2 ((dZ h3 hall (by rw[e];decide)).trans e) (by decide)]
   exact rfl
  have h4:0≤(x.st.getD k aV).1∧(x.st.getD k aV).1<6:=by rw[←vI];simpa using h4
  refine ah (p:=(x.st.getD k aV).1=uh x.st k) (by simp only[zz,reduceCtorEq]) (fun h5=>?_) (fun h5=>?_)
  ·have hk0:0<k:=by
    rcases aoB k with e | e
    ·subst e;unfold uh at h5;rw[if_pos rfl] at h5;omega
    ·exact e
   have h5:(x.st.getD k aV).1=(x.st.getD (k-1) aV).1:=by unfold uh at h5;rwa [if_neg (by omega)] at h5
   have e:lM x.st k=7:=by unfold lM;rw[if_neg (by omega),if_pos ⟨hk0,h5⟩]
   refine ai (ai (fun _=>trivial) ?_) trivial
   show aC _ (iP (eP x))
   rw[hA 7 ((dZ h3 hall (by rw[e];decide)).trans e) (by decide)]
   exact rfl
  refine ah (p:=(x.st.getD k aV).1<uh x.st k) (av Iff.rfl) (fun h6=>?_) (fun h6=>?_)
  ·have hk0:0<k:=by
    rcases aoB k with e | e
    ·subst e;unfold uh at h6;rw[if_pos rfl] at h6;omega
    ·exact e
   have h6:(x.st.getD k aV).1<(x.st.getD (k-1) aV).1:=by unfold uh at h6;rwa [if_neg (by omega)] at h6
   have e:lM x.st k=9:=by unfold lM;rw[if_neg (by omega),if_neg (by omega),if_pos ⟨hk0,h6⟩]
   refine ai (ai (fun _=>trivial) ?_) trivial
   show aC _ (iP (eP x))
   rw[hA 9 ((dZ h3 hall (by rw[e];decide)).trans e) (by decide)]
   exact rfl
  refine ei (k+1) (ai (ai rfl rfl) (ai (ai (ai rfl (ai (ai rfl rfl) (ai (ai rfl rfl) (ai (ai (ai (ai (fun _=>rfl) (aN (by omega))) rfl) (ai (ai nof (iE (by simp only[zz,reduceCtorEq];rfl))) rfl)) trivial)))) rfl) (ai (ai (iL (by omega)) ?_) (iM (by omega)))))
  intro j hj
  by_cases hjk:j=k
  ·subst hjk
   unfold uh at h5 h6
   unfold lM
   rw[if_neg (by omega)]
   by_cases e0:j=0
   ·rw[if_neg (by omega),if_neg (by omega)]
   ·rw[if_neg e0] at h5 h6
    rw[if_neg (fun h=>h5 h.2),if_neg (fun h=>h6 h.2)]
  ·exact hall j (by omega)
 ·obtain rfl:k=x.st.length:=by omega
  have e2:dW (lM x.st) x.st.length=0:=gZ hall
  have hB:eP x=if x.wt<0∨1000000<x.wt then 2 else 0:=by unfold eP;rw[if_neg h1,if_neg h2,if_neg (fun h=>h e2)]
  refine ah (p:=x.wt<0) (av (by omega)) (fun h7=>?_) (fun h7=>?_)
  ·refine ai (ai (fun _=>trivial) ?_) trivial
   show aC _ (iP (eP x))
   rw[hB,if_pos (.inl h7)]
   exact rfl
  refine ah (p:=1000000<x.wt) (av (by omega)) (fun h8=>?_) (fun h8=>?_)
  ·refine ai (ai (fun _=>trivial) ?_) trivial
   show aC _ (iP (eP x))
   rw[hB,if_pos (.inr h8)]
   exact rfl
  ·refine ai (ai (fun _=>trivial) ?_) trivial
   show aC _ (iP (eP x))
   rw[hB,if_neg (by omega)]
   exact rfl
theorem anl:aM Tryz.prog 155 aoY:=by
 refine aW (Tb:=tab) mixed aB Tryz.func155 rfl rfl ?_
 rintro (x:Stp) hpre
 refine ai (ai rfl (ai rfl rfl)) ?_
 refine ah (p:=x.st.length=0) (gD (by omega)) (fun h1=>?_) (fun h1=>?_)
 ·refine ai (ai (fun _=>trivial) ?_) trivial
  show aC _ (iP (eP x))
  rw[eP,if_pos h1]
  exact rfl
 refine ah (p:=6<x.st.length) (av (by omega)) (fun h2=>?_) (fun h2=>?_)
 ·refine ai (ai (fun _=>trivial) ?_) trivial
  show aC _ (iP (eP x))
  rw[eP,if_neg h1,if_pos h2]
  exact rfl
 have hA:∀e,dW (lM x.st) x.st.length=e→¬e=0→eP x=e:=fun e h h0=>by unfold eP;rw[if_neg h1,if_neg h2,if_pos (by rw[h];exact h0),h]
 refine ei (bI.inv { X:=Nat,up:=fun k=>[(3,.s (iA k))],uo:=fun k=>[],inv:=fun k=>k≤x.st.length∧(∀j,j<k→lM x.st j=0),meas:=fun k=>x.st.length-k,x0:=0 }) ?_
 refine ai (ai (ai (by exact (a4 (ai rfl rfl))) (ai (by exact (ai (ai (fun _=>rfl) (iE (by simp only[zz,reduceCtorEq];rfl))) rfl)) (by exact trivial))) rfl) (ai (ai (aef _) ?_) ?_)
 ·exact fun j hj=>absurd hj (akb _)
 intro (k:Nat) ⟨hk,hall⟩
 refine ah (p:=k<x.st.length) (av (by omega)) (fun h3=>?_) (fun h3=>?_)
 ·refine ai (ai (abJ _) (iN (n:=x.st.length) (by omega))) (ai rfl ?_)
  refine ei _ (ai (ag4) (ei ((x.st.getD k aV).1) (ei [] (ai (a4 (ai (fun _=>Or.inl rfl) (ai nof (Or.inl rfl)))) (ai (by exact (iE (by simp only[zz,reduceCtorEq]))) (ai trivial (ai (trivial) ?_)))))))
  refine bE (b:=!aiw (x.st.getD k aV).1) rfl (fun h4=>?_) (fun h4=>?_)
  ·have h4:¬(0≤(x.st.getD k aV).1∧(x.st.getD k aV).1<6):=by rw[←vI];simpa using h4
   have e:lM x.st k=2:=by unfold lM;rw[if_pos (by omega)]
   refine ai (ai (fun _=>trivial) ?_) trivial
   show aC _ (iP (eP x))
   rw[hA 2 ((dZ h3 hall (by rw[e];decide)).trans e) (by decide)]
   exact rfl
  have h4:0≤(x.st.getD k aV).1∧(x.st.getD k aV).1<6:=by rw[←vI];simpa using h4
  refine ei (.seq [0,1,2,3,4,5,6,7,8,9,10,11,12,13,14,15,16,17]) (ai (by kernel_rfl) ?_)
  refine ah (p:=0<k) (av (by omega)) (fun h5=>?_) (fun h5=>?_)
  ·have hw:IntKind.i64.wrap ((k:Int)-1)=((k-1:Nat):Int):=amf h5 (by omega)
   refine ai (ai (abJ _) (iN (n:=x.st.length) (by omega))) (ai rfl ?_)
   refine ai (ai (by rw[hw];exact abJ _) (by rw[hw];show ((k-1:Nat):Int)<(x.st.length:Int);omega)) ?_
   refine ai rfl ?_
   refine ah (p:=(x.st.getD k aV).1=(x.st.getD (k-1) aV).1) (by exact gD (by rw[hw];exact Iff.rfl)) (fun h6=>?_) (fun h6=>?_)
   ·have e:lM x.st k=7:=by unfold lM;rw[if_neg (by omega),if_pos ⟨h5,h6⟩]
    refine ai (ai (fun _=>trivial) ?_) trivial
    show aC _ (iP (eP x))
    rw[hA 7 ((dZ h3 hall (by rw[e];decide)).trans e) (by decide)]
    exact rfl
   refine ei (.seq [0,1,2,3,4,5,6,7,8,9,10,11,12,13,14,15,16,17]) (ai (by kernel_rfl) ?_)
   refine ah (p:=0<k) (av (by omega)) (fun h7=>?_) (fun h7=>?_)
   ·refine ai (ai (abJ _) (iN (n:=x.st.length) (by omega))) (ai rfl ?_)
    refine ai (ai (by rw[hw];exact abJ _) (by rw[hw];show ((k-1:Nat):Int)<(x.st.length:Int);omega)) ?_
    refine ai rfl ?_
    refine ah (p:=(x.st.getD k aV).1<(x.st.getD (k-1) aV).1) (by exact av (by rw[hw];exact Iff.rfl)) (fun h8=>?_) (fun h8=>?_)
    ·have e:lM x.st k=9:=by unfold lM;rw[if_neg (by omega),if_neg (fun h=>h6 h.2),if_pos ⟨h5,h8⟩]
     refine ai (ai (fun _=>trivial) ?_) trivial
     show aC _ (iP (eP x))
     rw[hA 9 ((dZ h3 hall (by rw[e];decide)).trans e) (by decide)]
     exact rfl
    ·refine ei (k+1) (ai (ai rfl rfl) (ai (ai (ai rfl (ai (ai rfl rfl) (ai (ai rfl rfl) (ai (ai (ai (fun _=>rfl) (aN (by omega))) rfl) trivial)))) rfl) (ai (ai (iL (by omega)) ?_) (iM (by omega)))))
     intro j hj
     by_cases hjk:j=k
     ·subst hjk
      unfold lM
      rw[if_neg (by omega),if_neg (fun h=>h6 h.2),if_neg (fun h=>h8 h.2)]
     ·exact hall j (by omega)
   ·exact absurd h5 h7
  ·refine ei (.seq [0,1,2,3,4,5,6,7,8,9,10,11,12,13,14,15,16,17]) (ai (by kernel_rfl) ?_)
   refine ah (p:=0<k) (av (by omega)) (fun h7=>?_) (fun h7=>?_)
   ·exact absurd h7 h5
   ·refine ei (k+1) (ai (ai rfl rfl) (ai (ai (ai rfl (ai (ai rfl rfl) (ai (ai rfl rfl) (ai (ai (ai (fun _=>rfl) (aN (by omega))) rfl) trivial)))) rfl) (ai (ai (iL (by omega)) ?_) (iM (by omega)))))
    intro j hj
    by_cases hjk:j=k
    ·subst hjk
     unfold lM
     rw[if_neg (by omega),if_neg (fun h=>h5 h.1),if_neg (fun h=>h5 h.1)]
    ·exact hall j (by omega)
 ·obtain rfl:k=x.st.length:=by omega
  have e2:dW (lM x.st) x.st.length=0:=gZ hall
  have hB:eP x=if x.wt<0∨1000000<x.wt then 2 else 0:=by unfold eP;rw[if_neg h1,if_neg h2,if_neg (fun h=>h e2)]
  refine ei _ (ai (anZ) (ei (x.wt) (ei [] (ai (a4 (ai (fun _=>Or.inl rfl) (ai nof (Or.inl rfl)))) (ai (by exact rfl) (ai trivial (ai (trivial) ?_)))))))
  refine bE (b:=!(decide (0≤x.wt)&&decide (x.wt≤1000000))) rfl (fun h7=>?_) (fun h7=>?_)
  ·have h7:¬(0≤x.wt∧x.wt≤1000000):=by
    intro h
    rw[decide_eq_true h.1,decide_eq_true h.2] at h7;cases h7
   refine ai (ai (fun _=>trivial) ?_) trivial
   show aC _ (iP (eP x))
   rw[hB,if_pos (by omega)]
   exact rfl
  ·have h7:0≤x.wt∧x.wt≤1000000:=by
    have:(decide (0≤x.wt)&&decide (x.wt≤1000000))=true:=by simpa using h7
    rwa [afd,decide_eq_true_iff,decide_eq_true_iff] at this
   refine ai (ai (fun _=>trivial) ?_) trivial
   show aC _ (iP (eP x))
   rw[hB,if_neg (by omega)]
   exact rfl
theorem afD {m:List Bool} {j:Nat} (hj:j<m.length) (b:Bool) (k:Nat):pF (fM m) j (bP b) k=fM (m.set j b) k:=by
 unfold pF fM
 rw[aaM,aaM,aru]
 by_cases h:k=j
 ·rw[if_pos h,if_pos h.symm,if_pos hj];rfl
 ·rw[if_neg h,if_neg (fun e=>h e.symm)]
def vk (n:Nat) (l:List Sk):Prop:=∀y∈l,0≤y.1∧y.1<(n:Int)
theorem sG {n:Nat} {l:List Sk} (h:vk n l) {k:Nat} (hk:k<l.length):0≤(l.getD k aV).1∧(l.getD k aV).1<(n:Int):=h _ (aee (bT aV hk))
def lG (m:List Bool) (l:List Sk):List Bool:=l.foldl (fun m y=>m.set y.1.toNat y.2) m
theorem adQ (m:List Bool) (l:List Sk) (y:Sk):lG m (l++[y])=(lG m l).set y.1.toNat y.2:=by unfold lG;rw[ari];rfl
theorem oW:∀(l:List Sk) (m:List Bool),(lG m l).length=m.length
 | [],_=>rfl
 | y :: l,m=>by
  show (lG (m.set y.1.toNat y.2) l).length=_
  rw[oW l,ars]
theorem lT {x:Stp} (h:eP x=0):(0<x.st.length∧x.st.length≤6)∧vk 6 x.st∧0≤x.wt∧x.wt≤1000000:=by
 unfold eP at h
 split at h
 ·cases h
 rename_i h1
 split at h
 ·cases h
 rename_i h2
 split at h
 ·rename_i h3;exact absurd h h3
 rename_i h3
 split at h
 ·cases h
 rename_i h4
 refine ⟨⟨by omega,by omega⟩,fun y hy=>?_,by omega,by omega⟩
 obtain ⟨i,hi,rfl⟩:=aop hy
 have h5:=l9 (aoJ.1 h3) i hi
 unfold lM at h5
 have hg:x.st.getD i aV=x.st[i]:=by rw[aaM,aa8 hi];rfl
 rw[hg] at h5
 split at h5
 ·cases h5
 ·omega
def enP (m:List Bool):PV:=.arr 6 (fM m)
def enA (m:List Bool):SV:=.p false (enP m)
def enO (m:List Bool):Ob:=.arr 194 6 (fM m)
def vL (act:Int) (l:List Sk):Bool:=l.any fun y=>decide (act≤y.1)
def atE (m:List Bool) (l:List Sk):Bool:=l.any fun y=>jw m y.1==y.2
def jA (act:Int) (x:Stp) (m:List Bool):Int:=if ¬eP x=0 then eP x else if vL act x.st then 6 else if atE m x.st then 14 else 0
end Go.Sx.Pe
